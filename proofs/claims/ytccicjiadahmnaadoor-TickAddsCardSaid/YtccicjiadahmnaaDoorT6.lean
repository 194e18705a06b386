/- Contracts of functions that the statements reach, written by a program of this claim's own; no condition. -/
import Derived.Test.YtccicjiadahmnaaDoorT0
namespace Go.Proofs.YtccicjiadahmnaaDoor.T
open Go.RowKit Go.Proofs.YtccicjiadahmnaaDoorW.PrintWords Go.Proofs.YtccicjiadahmnaaDoorW.PrintLast Go.Proofs.YtccicjiadahmnaaDoorW.PrintMore
attribute [local go_sem] max2_int min2_int max_two min_two max_three min_three max_four min_four   -- for this text's walks alone
set_option linter.unusedVariables false
set_option linter.unusedSimpArgs false

/-! ### tocsinref02_trim: function 34 -/
def tocsinref02_trim.l0 : Nat → List Int → Bool → Option (List Int × Bool)
 | 0, _, _ => none
 | k + 1, x150000, x150001 => if (x150000.length : Int) > 0 then (if 0 ≤ (wrap64 ((x150000.length : Int) - 1)) then (if (wrap64 ((x150000.length : Int) - 1)) < (x150000.length : Int) then (if (rd x150000 (wrap64 ((x150000.length : Int) - 1))) = 0 then (if (wrap64 ((x150000.length : Int) - 1)) ≤ (x150000.length : Int) then (tocsinref02_trim.l0 k (x150000.take ((wrap64 ((x150000.length : Int) - 1)) : Int).toNat) x150001) else (none)) else (if (x150000.length : Int) = 0 then (some (x150000, false)) else (some (x150000, x150001)))) else (none)) else (none)) else (if (x150000.length : Int) = 0 then (some (x150000, false)) else (some (x150000, x150001)))
def tocsinref02_trim.f (k : Nat) (l0_0 : List Int) (a0_1 : Bool) : Option (List Int × Bool) := tocsinref02_trim.l0 k l0_0 a0_1
theorem tocsinref02_trim.mono_l : ∀ k, (∀ y0 y1, LeO (tocsinref02_trim.l0 k y0 y1) (tocsinref02_trim.l0 (k + 1) y0 y1))
 | 0 => fun _ _ r h => by simp [tocsinref02_trim.l0] at h
 | k + 1 => by
  have ih0 := tocsinref02_trim.mono_l k
  ·intro y0 y1
   unfold tocsinref02_trim.l0
   repeat' first
   | (with_reducible exact ih0 _ _)
   | (with_reducible exact LeO.refl _)
   | (with_reducible exact LeO.none _)
   | (with_reducible refine LeO.ite ?_ ?_)
   | (with_reducible refine LeO.bind ?_ (fun _ => ?_))
   | exact ih0 _ _
   | exact LeO.none _
   | refine LeO.ite ?_ ?_
   | refine LeO.bind ?_ (fun _ => ?_)
theorem tocsinref02_trim.mono : ∀ a0 a1 k, LeO (tocsinref02_trim.f k a0 a1) (tocsinref02_trim.f (k + 1) a0 a1) := by
 intro a0 a1 k
 have ih0 := tocsinref02_trim.mono_l k
 unfold tocsinref02_trim.f
 repeat' first
   | (with_reducible exact ih0 _ _)
   | (with_reducible exact LeO.refl _)
   | (with_reducible exact LeO.none _)
   | (with_reducible refine LeO.ite ?_ ?_)
   | (with_reducible refine LeO.bind ?_ (fun _ => ?_))
   | exact ih0 _ _
   | exact LeO.none _
   | refine LeO.ite ?_ ?_
   | refine LeO.bind ?_ (fun _ => ?_)
set_option maxHeartbeats 8000000 in
set_option maxRecDepth 100000 in
theorem tocsinref02_trim.calls (k : Nat) (P0_0_ : Nat → Prop) (A0_0 : Option Addr) (c0_0 : Nat) (l0_0 : List Int) (a0_1 : Bool) (r1 : List Int) (r2 : Bool) (w : World) (hs0_0 : Kd.V (Kd.int .u32) 51 w w.heap.size (fun k_ => P0_0_ k_) (.slice A0_0 l0_0.length c0_0) l0_0) (h : tocsinref02_trim.f k l0_0 a0_1 = some (r1, r2)) :
  Calls Tryd.prog 34 #[.agg #[.slice A0_0 l0_0.length c0_0, .bool a0_1]] w fun e w' => ∃ v0_ : Value, e = .returned (.agg #[v0_, .bool r2]) ∧ Kd.V (Kd.int .u32) 51 w' w.heap.size (fun k_ => (P0_0_ k_ ∨ w.heap.size ≤ k_)) v0_ r1 ∧ Below w.heap.size w w' := by
 have hu28 := Tryd.underlying28
 have HO0_0 := Aside0.mk (show Kd.V (Kd.int .u32) 51 w w.heap.size (fun k_ => (P0_0_ k_ ∨ w.heap.size ≤ k_)) (.slice A0_0 l0_0.length c0_0) l0_0 from Kd.V_mono hs0_0 (fun k_ hk => .inl hk))
 have HB := Aside0.mk (Below.refl w.heap.size w)
 have H : (tocsinref02_trim.l0 k l0_0 a0_1) = some (r1, r2) := h
 clear h
 have H' := Aside0.mk H
 clear H
 go_enter Tryd.func34, Tryd.ntmps34
 go_wp2_with (first | ((with_reducible refine gate_dst (N := 1) rfl ?_); (try (refine gate_guard (by rfl) ?_; dsimp only)); refine box_event ?hg (N := 1) ?hd (cs := #[.slice A0_0 l0_0.length c0_0, .bool a0_1]) (t := 28) ?hr ?_; (case hd => rfl); (case hg => rfl); (case hr => first | (go_simp; done) | (go_simp; rfl)); intro gb149 hg w2 hbox hb; have n0_ := Aside0.mk (Kd.V_below (Kd.V_elderB (by (with_reducible repeat (first | apply Kd.V_alloc | apply Kd.V_drewN | apply Kd.V_drew)); exact HO0_0.out) gb149 (Nat.le_of_eq hg.symm)) hb); have n1_ := Aside0.mk (below_step (by repeat (first | (with_reducible first | exact HB.out | apply below_alloc | apply pw_below_drewN | apply below_drew1) | exact HB.out)) hb); have n2_ := Aside0.mk (hbox); have n3_ := Aside0.mk ((by rw [hg]; exact (below_size (by repeat (first | (with_reducible first | exact HB.out | apply below_alloc | apply pw_below_drewN | apply below_drew1) | exact HB.out))) : w.heap.size ≤ gb149)); have n4_ := Aside0.mk ((by rw [hg]; exact (below_size (by repeat (first | (with_reducible first | exact HB.out | apply below_alloc | apply pw_below_drewN | apply below_drew1) | exact HB.out))) : w.heap.size ≤ gb149)); clear HO0_0; clear HB; have HO0_0 := n0_; have HB := n1_; have BK149 := n2_; have GW149 := n3_; have GE149 := n4_; clear n0_ n1_ n2_ n3_ n4_; clear hb hbox hg) | ((with_reducible refine gate_dst (N := 2) rfl ?_); (try (refine gate_guard (by rfl) ?_; dsimp only)); refine box_event ?hg (N := 2) ?hd (cs := #[.slice none 0 0, .bool false]) (t := 28) ?hr ?_; (case hd => rfl); (case hg => rfl); (case hr => first | (go_simp; done) | (go_simp; rfl)); intro gb150 hg w3 hbox hb; have n0_ := Aside0.mk (Kd.V_below (Kd.V_elderB (by (with_reducible repeat (first | apply Kd.V_alloc | apply Kd.V_drewN | apply Kd.V_drew)); exact HO0_0.out) gb150 (Nat.le_of_eq hg.symm)) hb); have n1_ := Aside0.mk (blk_below (g := gb149) (o := .cells #[.slice A0_0 l0_0.length c0_0, .bool a0_1] 28 (0, 0)) (by (with_reducible repeat (first | refine blk_drewN ?_ _ | refine blk_drew ?_ | refine blk_alloc ?_ _)); exact BK149.out) hb); have n2_ := Aside0.mk (below_step (by repeat (first | (with_reducible first | exact HB.out | apply below_alloc | apply pw_below_drewN | apply below_drew1 | refine below_set ?_ GE149.out) | exact HB.out)) hb); have n3_ := Aside0.mk (hbox); have n4_ := Aside0.mk ((by rw [hg]; exact (below_size (by repeat (first | (with_reducible first | exact HB.out | apply below_alloc | apply pw_below_drewN | apply below_drew1 | refine below_set ?_ GE149.out) | exact HB.out))) : w.heap.size ≤ gb150)); have n5_ := Aside0.mk ((by rw [hg]; exact (below_size (by repeat (first | (with_reducible first | exact HB.out | apply below_alloc | apply pw_below_drewN | apply below_drew1 | refine below_set ?_ GE149.out) | exact HB.out))) : w.heap.size ≤ gb150)); have n6_ := Aside0.mk ((by rw [hg]; exact Nat.ne_of_lt (blk_lt (g := gb149) (o := .cells #[.slice A0_0 l0_0.length c0_0, .bool a0_1] 28 (0, 0)) (by (with_reducible repeat (first | refine blk_drewN ?_ _ | refine blk_drew ?_ | refine blk_alloc ?_ _)); exact BK149.out)) : gb149 ≠ gb150)); have n7_ := Aside0.mk ((by rw [hg]; exact Nat.ne_of_gt (blk_lt (g := gb149) (o := .cells #[.slice A0_0 l0_0.length c0_0, .bool a0_1] 28 (0, 0)) (by (with_reducible repeat (first | refine blk_drewN ?_ _ | refine blk_drew ?_ | refine blk_alloc ?_ _)); exact BK149.out)) : gb150 ≠ gb149)); clear HO0_0; clear BK149; clear HB; have HO0_0 := n0_; have BK149 := n1_; have HB := n2_; have BK150 := n3_; have GW150 := n4_; have GE150 := n5_; have NB149_150 := n6_; have NB150_149 := n7_; clear n0_ n1_ n2_ n3_ n4_ n5_ n6_ n7_; clear hb hbox hg))
 (try simp only [Act.put, List.setIfInBounds_toArray, List.set_cons_zero, List.set_cons_succ])
 go_loopg [] k (fun kq w' => ∃ (x150000_1 : List Int) (u150000 : Value), Aside0 (tocsinref02_trim.l0 kq x150000_1 a0_1 = some (r1, r2)) ∧ Aside0 (kq ≤ k) ∧ Aside0 (Kd.V (Kd.int .u32) 51 w' w.heap.size (fun k_ => (P0_0_ k_ ∨ w.heap.size ≤ k_) ∧ k_ ≠ gb149 ∧ k_ ≠ gb150) u150000 x150000_1) ∧ Aside0 (w'.heap[gb149]? = some (.cells #[u150000, .bool a0_1] 28 (0, 0))) ∧ Aside0 (w'.heap[gb150]? = some (.cells #[(.slice none 0 0), .bool false] 28 (0, 0))) ∧ Aside0 (Below w.heap.size w w'))
 case atStart => exact ⟨(l0_0), (.slice A0_0 l0_0.length c0_0), H', ⟨Nat.le_refl _⟩, ⟨by (with_reducible repeat (first | apply Kd.V_alloc | apply Kd.V_drewN | apply Kd.V_drew)); exact Kd.V_mono HO0_0.out (fun _ hk => ⟨hk.1.1, ⟨hk.1.2, hk.2⟩⟩)⟩, ⟨by (with_reducible repeat (first | refine blk_drewN ?_ _ | refine blk_drew ?_ | refine blk_alloc ?_ _)); exact BK149.out⟩, ⟨by (with_reducible repeat (first | refine blk_drewN ?_ _ | refine blk_drew ?_ | refine blk_alloc ?_ _)); exact BK150.out⟩, ⟨by repeat (first | (with_reducible first | exact HB.out | apply below_alloc | apply pw_below_drewN | apply below_drew1 | refine below_set ?_ GE149.out | refine below_set ?_ GE150.out) | exact HB.out)⟩⟩
 case round =>
  clear H'
  try clear p2
  try clear c3
  obtain ⟨x150000_1, u150000, HA, HK1, HO_150000, BK149, BK150, HB⟩ := hrel
  cases gk with
  | zero => exact absurd HA.out (by simp [tocsinref02_trim.l0])
  | succ k1 =>
   have H := HA.out
   clear HA
   simp only [tocsinref02_trim.l0] at H
   by_cases c4 : (x150000_1.length : Int) > 0
   ·rw [if_pos c4] at H
    have c4b0 : decide (0 < (x150000_1.length : Int)) = true := decide_eq_true c4
    have c4b1 : decide (0 < x150000_1.length) = true := decide_eq_true (by omega)
    clear c4
    obtain ⟨ji5, hji5⟩ : ∃ j_ : Int, (wrap64 ((x150000_1.length : Int) - 1)) = j_ := ⟨_, rfl⟩
    replace H : (if 0 ≤ (ji5) then (if (ji5) < (x150000_1.length : Int) then (if (rd x150000_1 (ji5)) = 0 then (if (ji5) ≤ (x150000_1.length : Int) then (tocsinref02_trim.l0 k1 (x150000_1.take ((ji5) : Int).toNat) a0_1) else (none)) else (if (x150000_1.length : Int) = 0 then (some (x150000_1, false)) else (some (x150000_1, a0_1)))) else (none)) else (none)) = some (r1, r2) := by first | (rw [hji5] at H; exact H) | (simp only [hji5] at H ⊢; exact H)
    have hji5w : (IntKind.i64.wrap ((x150000_1.length : Int) - 1)) = ji5 := (i64_w _).trans hji5
    by_cases c6 : 0 ≤ (ji5)
    ·rw [if_pos c6] at H
     have c6b0 : decide (0 ≤ (ji5)) = true := decide_eq_true c6
     clear c6
     by_cases c7 : (ji5) < (x150000_1.length : Int)
     ·rw [if_pos c7] at H
      have c7b0 : decide ((ji5) < (x150000_1.length : Int)) = true := decide_eq_true c7
      clear c7
      by_cases c8 : (rd x150000_1 (ji5)) = 0
      ·rw [if_pos c8] at H
       have c8b0 : ((rd x150000_1 (ji5)) == 0) = true := beq_iff_eq.mpr c8
       have c8b1 : ((rd x150000_1 (ji5)) != 0) = false := bne_eq_false_iff_eq.mpr c8
       clear c8
       have c9b0 := eq_true (of_decide_eq_true (by first | (with_reducible assumption) | assumption) : 0 ≤ (ji5))
       by_cases c10 : (ji5) ≤ (x150000_1.length : Int)
       ·rw [if_pos c10] at H
        have c10b0 := eq_true c10
        have c10b1 : decide ((ji5) ≤ (x150000_1.length : Int)) = true := decide_eq_true c10
        clear c10
        obtain ⟨y152, hy152⟩ : ∃ y_ : List Int, y_ = (x150000_1.take ((ji5) : Int).toNat) := ⟨_, rfl⟩
        replace H : (tocsinref02_trim.l0 k1 y152 a0_1) = some (r1, r2) := by first | (rw [hy152]; with_reducible exact H) | (have H2_ := (Option.bind_some _ _).symm.trans H; rw [hy152]; with_reducible exact H2_) | (have H2_ := (Option.bind_some _ _).symm.trans H; with_reducible exact H2_) | with_reducible exact H | (rw [hy152]; exact H) | exact H
        have Ny152 := Aside0.mk hy152
        clear hy152
        have H' := Aside0.mk H
        clear H
        have hnb11 := NB149_150.out
        have hnc11 := NB150_149.out
        have hcz12_0 : wr.cell? ⟨gb149, 0, none⟩ = some (u150000) := (blk_cell BK149.out 0).trans rfl
        have hcz12_1 : wr.cell? ⟨gb149, 1, none⟩ = some (.bool a0_1) := (blk_cell BK149.out 1).trans rfl
        have hfz12_0 := blk_frozen BK149.out 0
        have hfz12_1 := blk_frozen BK149.out 1
        obtain ⟨Ao13, co13, eo13⟩ := Kd.V_slice HO_150000.out
        subst eo13
        have p151 : 0 ≤ ((ji5) : Int) := of_decide_eq_true (by first | (with_reducible assumption) | assumption)
        have q151 : (ji5) < (x150000_1.length : Int) := of_decide_eq_true (by first | (with_reducible assumption) | assumption)
        obtain ⟨ad151, e151, hx151_0⟩ := Kd.at_int (Kd.V_reads' HO_150000.out).2.2 (ji5) p151 q151
        cases e151
        replace p151 := eq_true p151
        replace q151 := eq_true q151
        have q14 : ((ji5) : Int) ≤ ((x150000_1.length : Int) : Int) := of_decide_eq_true (by first | (with_reducible assumption) | assumption)
        obtain ⟨i014, hi014, _, hsz14, _⟩ := info_parts info51
        have hroom14 : x150000_1.length ≤ co13 := (Kd.V_reads' HO_150000.out).2.1
        have hC14 : Kd.F (Kd.int .u32) _ _ (some ad151) x150000_1.length x150000_1 := (Kd.V_at (base := w.heap.size) HO_150000.out).2.2
        have hcut14 := cut_to (P := Tryd.prog) 26 51 .i64 Tryd.underlying26 hi014 (some ad151) x150000_1.length co13 (ji5) (of_decide_eq_true (by first | (with_reducible assumption) | assumption)) q14 hroom14
        have hr14 := Kd.F_take (m := ((ji5) : Int).toNat) hC14 (by omega)
        have hy14 : y152.length = ((ji5) : Int).toNat := (by rw [Ny152.out, List.length_take]; omega)
        rw [← Ny152.out] at hr14
        rw [← hy14] at hcut14
        have HO156 := Aside0.mk (show Kd.V (Kd.int .u32) 51 _ w.heap.size _ (.slice (some ad151) y152.length co13) y152 from Kd.V_mk (by omega) hr14)
        have HC156 := Aside0.mk (show y152.length ≤ co13 from by omega)
        clear hr14 hC14 hroom14 hi014 hsz14
        have KY14 := Aside0.mk hy14
        clear hy14
        replace q14 := eq_true q14
        go_wp2
        go_roundg k1
        case measure => have := HK1.out; omega
        case rel => exact ⟨(y152), (.slice (some ad151) y152.length co13), H', ⟨by have := HK1.out; omega⟩, ⟨by (with_reducible repeat (first | apply Kd.V_alloc | apply Kd.V_drewN | apply Kd.V_drew)); exact Kd.V_mono (Kd.V_far (p := ⟨gb149, 0, none⟩) (Kd.V_mono HO156.out (fun k_ hk => (⟨hk, hk.2.1⟩ : _ ∧ k_ ≠ gb149))) (fun _ hk => hk.2) (.slice (some ad151) y152.length co13)) (fun _ hk => ⟨hk.1.1, ⟨hk.1.2.1, hk.1.2.2⟩⟩)⟩, ⟨by (with_reducible repeat (first | refine blk_drewN ?_ _ | refine blk_drew ?_ | refine blk_alloc ?_ _)); refine blk_put (cs := #[.slice (some ad151) x150000_1.length co13, .bool a0_1]) ?_ 0 _ (by first | rfl | (simp [*]; done)); (with_reducible repeat (first | refine blk_drewN ?_ _ | refine blk_drew ?_ | refine blk_alloc ?_ _)); exact BK149.out⟩, ⟨by (with_reducible repeat (first | refine blk_drewN ?_ _ | refine blk_drew ?_ | refine blk_alloc ?_ _)); refine blk_far ?_ NB150_149.out _; (with_reducible repeat (first | refine blk_drewN ?_ _ | refine blk_drew ?_ | refine blk_alloc ?_ _)); exact BK150.out⟩, ⟨by repeat (first | (with_reducible first | exact HB.out | apply below_alloc | apply pw_below_drewN | apply below_drew1 | refine below_set ?_ GE149.out | refine below_set ?_ GE150.out) | exact HB.out)⟩⟩
       ·rw [if_neg c10] at H
        exact absurd H (by simp)
      ·rw [if_neg c8] at H
       have c8b0 : ((rd x150000_1 (ji5)) == 0) = false := beq_eq_false_iff_ne.mpr c8
       have c8b1 : ((rd x150000_1 (ji5)) != 0) = true := bne_iff_ne.mpr c8
       by_cases c15 : (x150000_1.length : Int) = 0
       ·rw [if_pos c15] at H
        have c15b0 : ((x150000_1.length : Int) == 0) = true := beq_iff_eq.mpr c15
        have c15b1 : ((x150000_1.length : Int) != 0) = false := bne_eq_false_iff_eq.mpr c15
        clear c15
        simp only [Option.some.injEq, Prod.mk.injEq] at H
        obtain ⟨rfl, rfl⟩ := H
        have hnb16 := NB149_150.out
        have hnc16 := NB150_149.out
        have hcz17_0 : wr.cell? ⟨gb149, 0, none⟩ = some (u150000) := (blk_cell BK149.out 0).trans rfl
        have hcz17_1 : wr.cell? ⟨gb149, 1, none⟩ = some (.bool a0_1) := (blk_cell BK149.out 1).trans rfl
        have hfz17_0 := blk_frozen BK149.out 0
        have hfz17_1 := blk_frozen BK149.out 1
        obtain ⟨Ao18, co18, eo18⟩ := Kd.V_slice HO_150000.out
        subst eo18
        have p151 : 0 ≤ ((ji5) : Int) := of_decide_eq_true (by first | (with_reducible assumption) | assumption)
        have q151 : (ji5) < (x150000_1.length : Int) := of_decide_eq_true (by first | (with_reducible assumption) | assumption)
        obtain ⟨ad151, e151, hx151_0⟩ := Kd.at_int (Kd.V_reads' HO_150000.out).2.2 (ji5) p151 q151
        cases e151
        replace p151 := eq_true p151
        replace q151 := eq_true q151
        have hcz19_0 : wr.cell? ⟨gb150, 0, none⟩ = some (.slice none 0 0) := (blk_cell BK150.out 0).trans rfl
        have hcz19_1 : wr.cell? ⟨gb150, 1, none⟩ = some (.bool false) := (blk_cell BK150.out 1).trans rfl
        have hfz19_0 := blk_frozen BK150.out 0
        have hfz19_1 := blk_frozen BK150.out 1
        go_wp2
        refine bodyPost_ret (results_cell_row rfl _ _ gb150 28 #[.slice (some ad151) x150000_1.length co18, .bool false] (0, 0) _ rfl (by (with_reducible repeat (first | refine blk_drewN ?_ _ | refine blk_drew ?_ | refine blk_alloc ?_ _)); refine blk_put (cs := #[.slice (some ad151) x150000_1.length co18, .bool false]) ?_ 1 _ (by first | rfl | (simp [*]; done)); (with_reducible repeat (first | refine blk_drewN ?_ _ | refine blk_drew ?_ | refine blk_alloc ?_ _)); refine blk_put (cs := #[.slice none 0 0, .bool false]) ?_ 0 _ (by first | rfl | (simp [*]; done)); (with_reducible repeat (first | refine blk_drewN ?_ _ | refine blk_drew ?_ | refine blk_alloc ?_ _)); refine blk_far ?_ NB150_149.out _; (with_reducible repeat (first | refine blk_drewN ?_ _ | refine blk_drew ?_ | refine blk_alloc ?_ _)); exact BK150.out) Tryd.underlying28 rfl (by kernel_rfl)) rfl ?_
        exact ⟨_, by first | rfl | (simp [errW_none, errW_some] <;> rfl) | (simp only [← hji5]; first | rfl | (simp [errW_none, errW_some] <;> rfl)) | (simp [*, errW_none, errW_some] <;> rfl), by (with_reducible repeat (first | apply Kd.V_alloc | apply Kd.V_drewN | apply Kd.V_drew)); exact Kd.V_mono (Kd.V_far (p := ⟨gb150, 1, none⟩) (Kd.V_far (p := ⟨gb150, 0, none⟩) (Kd.V_far (p := ⟨gb149, 1, none⟩) (Kd.V_mono (Kd.V_mono HO_150000.out (fun k_ hk => (⟨hk, hk.2.1⟩ : _ ∧ k_ ≠ gb149))) (fun k_ hk => (⟨hk, hk.1.2.2⟩ : _ ∧ k_ ≠ gb150))) (fun _ hk => hk.1.2) (.bool false)) (fun _ hk => hk.2) (.slice (some ad151) x150000_1.length co18)) (fun _ hk => hk.2) (.bool false)) (fun _ hk => hk.1.1.1), by repeat (first | (with_reducible first | exact HB.out | apply below_alloc | apply pw_below_drewN | apply below_drew1 | refine below_set ?_ GE149.out | refine below_set ?_ GE150.out) | exact HB.out)⟩
       ·rw [if_neg c15] at H
        have c15b0 : ((x150000_1.length : Int) == 0) = false := beq_eq_false_iff_ne.mpr c15
        have c15b1 : ((x150000_1.length : Int) != 0) = true := bne_iff_ne.mpr c15
        have c15b2 : ¬ (x150000_1 = []) := fun h_ => c15 (by rw [h_]; rfl)
        simp only [Option.some.injEq, Prod.mk.injEq] at H
        obtain ⟨rfl, rfl⟩ := H
        have hnb20 := NB149_150.out
        have hnc20 := NB150_149.out
        have hcz21_0 : wr.cell? ⟨gb149, 0, none⟩ = some (u150000) := (blk_cell BK149.out 0).trans rfl
        have hcz21_1 : wr.cell? ⟨gb149, 1, none⟩ = some (.bool a0_1) := (blk_cell BK149.out 1).trans rfl
        have hfz21_0 := blk_frozen BK149.out 0
        have hfz21_1 := blk_frozen BK149.out 1
        obtain ⟨Ao22, co22, eo22⟩ := Kd.V_slice HO_150000.out
        subst eo22
        have p151 : 0 ≤ ((ji5) : Int) := of_decide_eq_true (by first | (with_reducible assumption) | assumption)
        have q151 : (ji5) < (x150000_1.length : Int) := of_decide_eq_true (by first | (with_reducible assumption) | assumption)
        obtain ⟨ad151, e151, hx151_0⟩ := Kd.at_int (Kd.V_reads' HO_150000.out).2.2 (ji5) p151 q151
        cases e151
        replace p151 := eq_true p151
        replace q151 := eq_true q151
        have hcz23_0 : wr.cell? ⟨gb150, 0, none⟩ = some (.slice none 0 0) := (blk_cell BK150.out 0).trans rfl
        have hcz23_1 : wr.cell? ⟨gb150, 1, none⟩ = some (.bool false) := (blk_cell BK150.out 1).trans rfl
        have hfz23_0 := blk_frozen BK150.out 0
        have hfz23_1 := blk_frozen BK150.out 1
        go_wp2
        refine bodyPost_ret (results_cell_row rfl _ _ gb150 28 #[.slice (some ad151) x150000_1.length co22, .bool a0_1] (0, 0) _ rfl (by (with_reducible repeat (first | refine blk_drewN ?_ _ | refine blk_drew ?_ | refine blk_alloc ?_ _)); refine blk_put (cs := #[.slice (some ad151) x150000_1.length co22, .bool false]) ?_ 1 _ (by first | rfl | (simp [*]; done)); (with_reducible repeat (first | refine blk_drewN ?_ _ | refine blk_drew ?_ | refine blk_alloc ?_ _)); refine blk_put (cs := #[.slice none 0 0, .bool false]) ?_ 0 _ (by first | rfl | (simp [*]; done)); (with_reducible repeat (first | refine blk_drewN ?_ _ | refine blk_drew ?_ | refine blk_alloc ?_ _)); exact BK150.out) Tryd.underlying28 rfl (by kernel_rfl)) rfl ?_
        exact ⟨_, by first | rfl | (simp [errW_none, errW_some] <;> rfl) | (simp only [← hji5]; first | rfl | (simp [errW_none, errW_some] <;> rfl)) | (simp [*, errW_none, errW_some] <;> rfl), by (with_reducible repeat (first | apply Kd.V_alloc | apply Kd.V_drewN | apply Kd.V_drew)); exact Kd.V_mono (Kd.V_far (p := ⟨gb150, 1, none⟩) (Kd.V_far (p := ⟨gb150, 0, none⟩) (Kd.V_mono HO_150000.out (fun k_ hk => (⟨hk, hk.2.2⟩ : _ ∧ k_ ≠ gb150))) (fun _ hk => hk.2) (.slice (some ad151) x150000_1.length co22)) (fun _ hk => hk.2) (.bool a0_1)) (fun _ hk => hk.1.1), by repeat (first | (with_reducible first | exact HB.out | apply below_alloc | apply pw_below_drewN | apply below_drew1 | refine below_set ?_ GE149.out | refine below_set ?_ GE150.out) | exact HB.out)⟩
     ·rw [if_neg c7] at H
      exact absurd H (by simp)
    ·rw [if_neg c6] at H
     exact absurd H (by simp)
   ·rw [if_neg c4] at H
    have c4b0 : decide (0 < (x150000_1.length : Int)) = false := decide_eq_false c4
    have c4b1 : decide (0 < x150000_1.length) = false := decide_eq_false (by omega)
    clear c4
    by_cases c24 : (x150000_1.length : Int) = 0
    ·rw [if_pos c24] at H
     have c24b0 : ((x150000_1.length : Int) == 0) = true := beq_iff_eq.mpr c24
     have c24b1 : ((x150000_1.length : Int) != 0) = false := bne_eq_false_iff_eq.mpr c24
     clear c24
     simp only [Option.some.injEq, Prod.mk.injEq] at H
     obtain ⟨rfl, rfl⟩ := H
     have hnb25 := NB149_150.out
     have hnc25 := NB150_149.out
     have hcz26_0 : wr.cell? ⟨gb149, 0, none⟩ = some (u150000) := (blk_cell BK149.out 0).trans rfl
     have hcz26_1 : wr.cell? ⟨gb149, 1, none⟩ = some (.bool a0_1) := (blk_cell BK149.out 1).trans rfl
     have hfz26_0 := blk_frozen BK149.out 0
     have hfz26_1 := blk_frozen BK149.out 1
     obtain ⟨Ao27, co27, eo27⟩ := Kd.V_slice HO_150000.out
     subst eo27
     have hcz28_0 : wr.cell? ⟨gb150, 0, none⟩ = some (.slice none 0 0) := (blk_cell BK150.out 0).trans rfl
     have hcz28_1 : wr.cell? ⟨gb150, 1, none⟩ = some (.bool false) := (blk_cell BK150.out 1).trans rfl
     have hfz28_0 := blk_frozen BK150.out 0
     have hfz28_1 := blk_frozen BK150.out 1
     go_wp2
     refine bodyPost_ret (results_cell_row rfl _ _ gb150 28 #[.slice Ao27 x150000_1.length co27, .bool false] (0, 0) _ rfl (by (with_reducible repeat (first | refine blk_drewN ?_ _ | refine blk_drew ?_ | refine blk_alloc ?_ _)); refine blk_put (cs := #[.slice Ao27 x150000_1.length co27, .bool false]) ?_ 1 _ (by first | rfl | (simp [*]; done)); (with_reducible repeat (first | refine blk_drewN ?_ _ | refine blk_drew ?_ | refine blk_alloc ?_ _)); refine blk_put (cs := #[.slice none 0 0, .bool false]) ?_ 0 _ (by first | rfl | (simp [*]; done)); (with_reducible repeat (first | refine blk_drewN ?_ _ | refine blk_drew ?_ | refine blk_alloc ?_ _)); refine blk_far ?_ NB150_149.out _; (with_reducible repeat (first | refine blk_drewN ?_ _ | refine blk_drew ?_ | refine blk_alloc ?_ _)); exact BK150.out) Tryd.underlying28 rfl (by kernel_rfl)) rfl ?_
     exact ⟨_, by first | rfl | (simp [errW_none, errW_some] <;> rfl) | (simp [*, errW_none, errW_some] <;> rfl), by (with_reducible repeat (first | apply Kd.V_alloc | apply Kd.V_drewN | apply Kd.V_drew)); exact Kd.V_mono (Kd.V_far (p := ⟨gb150, 1, none⟩) (Kd.V_far (p := ⟨gb150, 0, none⟩) (Kd.V_far (p := ⟨gb149, 1, none⟩) (Kd.V_mono (Kd.V_mono HO_150000.out (fun k_ hk => (⟨hk, hk.2.1⟩ : _ ∧ k_ ≠ gb149))) (fun k_ hk => (⟨hk, hk.1.2.2⟩ : _ ∧ k_ ≠ gb150))) (fun _ hk => hk.1.2) (.bool false)) (fun _ hk => hk.2) (.slice Ao27 x150000_1.length co27)) (fun _ hk => hk.2) (.bool false)) (fun _ hk => hk.1.1.1), by repeat (first | (with_reducible first | exact HB.out | apply below_alloc | apply pw_below_drewN | apply below_drew1 | refine below_set ?_ GE149.out | refine below_set ?_ GE150.out) | exact HB.out)⟩
    ·rw [if_neg c24] at H
     have c24b0 : ((x150000_1.length : Int) == 0) = false := beq_eq_false_iff_ne.mpr c24
     have c24b1 : ((x150000_1.length : Int) != 0) = true := bne_iff_ne.mpr c24
     have c24b2 : ¬ (x150000_1 = []) := fun h_ => c24 (by rw [h_]; rfl)
     simp only [Option.some.injEq, Prod.mk.injEq] at H
     obtain ⟨rfl, rfl⟩ := H
     have hnb29 := NB149_150.out
     have hnc29 := NB150_149.out
     have hcz30_0 : wr.cell? ⟨gb149, 0, none⟩ = some (u150000) := (blk_cell BK149.out 0).trans rfl
     have hcz30_1 : wr.cell? ⟨gb149, 1, none⟩ = some (.bool a0_1) := (blk_cell BK149.out 1).trans rfl
     have hfz30_0 := blk_frozen BK149.out 0
     have hfz30_1 := blk_frozen BK149.out 1
     obtain ⟨Ao31, co31, eo31⟩ := Kd.V_slice HO_150000.out
     subst eo31
     have hcz32_0 : wr.cell? ⟨gb150, 0, none⟩ = some (.slice none 0 0) := (blk_cell BK150.out 0).trans rfl
     have hcz32_1 : wr.cell? ⟨gb150, 1, none⟩ = some (.bool false) := (blk_cell BK150.out 1).trans rfl
     have hfz32_0 := blk_frozen BK150.out 0
     have hfz32_1 := blk_frozen BK150.out 1
     go_wp2
     refine bodyPost_ret (results_cell_row rfl _ _ gb150 28 #[.slice Ao31 x150000_1.length co31, .bool a0_1] (0, 0) _ rfl (by (with_reducible repeat (first | refine blk_drewN ?_ _ | refine blk_drew ?_ | refine blk_alloc ?_ _)); refine blk_put (cs := #[.slice Ao31 x150000_1.length co31, .bool false]) ?_ 1 _ (by first | rfl | (simp [*]; done)); (with_reducible repeat (first | refine blk_drewN ?_ _ | refine blk_drew ?_ | refine blk_alloc ?_ _)); refine blk_put (cs := #[.slice none 0 0, .bool false]) ?_ 0 _ (by first | rfl | (simp [*]; done)); (with_reducible repeat (first | refine blk_drewN ?_ _ | refine blk_drew ?_ | refine blk_alloc ?_ _)); exact BK150.out) Tryd.underlying28 rfl (by kernel_rfl)) rfl ?_
     exact ⟨_, by first | rfl | (simp [errW_none, errW_some] <;> rfl) | (simp [*, errW_none, errW_some] <;> rfl), by (with_reducible repeat (first | apply Kd.V_alloc | apply Kd.V_drewN | apply Kd.V_drew)); exact Kd.V_mono (Kd.V_far (p := ⟨gb150, 1, none⟩) (Kd.V_far (p := ⟨gb150, 0, none⟩) (Kd.V_mono HO_150000.out (fun k_ hk => (⟨hk, hk.2.2⟩ : _ ∧ k_ ≠ gb150))) (fun _ hk => hk.2) (.slice Ao31 x150000_1.length co31)) (fun _ hk => hk.2) (.bool a0_1)) (fun _ hk => hk.1.1), by repeat (first | (with_reducible first | exact HB.out | apply below_alloc | apply pw_below_drewN | apply below_drew1 | refine below_set ?_ GE149.out | refine below_set ?_ GE150.out) | exact HB.out)⟩

/-! ### tocsinref02_digit: function 38 -/
def tocsinref02_digit.f (l0 : List Int) (a1 : Int) : Option (Int) := if a1 < (l0.length : Int) then (if 0 ≤ a1 then (some (rd l0 a1)) else (none)) else (some 0)
set_option maxHeartbeats 8000000 in
set_option maxRecDepth 100000 in
theorem tocsinref02_digit.calls (A0 : Option Addr) (c0 : Nat) (l0 : List Int) (a1 : Int) (r : Int) (w : World) (hr0 : Kd.C (Kd.int .u32) w A0 l0.length l0) (hc0 : l0.length ≤ c0) (h : tocsinref02_digit.f l0 a1 = some r) :
  Calls Tryd.prog 38 #[.slice A0 l0.length c0, .int .i64 a1] w fun e w' => e = .returned (.int .u32 r) ∧ Drawn0 w w' := by
 have HR0 := Aside0.mk hr0
 have HC0 := Aside0.mk hc0
 clear hr0 hc0
 have H : (if a1 < (l0.length : Int) then (if 0 ≤ a1 then (some (rd l0 a1)) else (none)) else (some 0)) = some r := h
 clear h
 by_cases c3 : a1 < (l0.length : Int)
 ·rw [if_pos c3] at H
  have c3b0 : decide (a1 < (l0.length : Int)) = true := decide_eq_true c3
  clear c3
  by_cases c4 : 0 ≤ a1
  ·rw [if_pos c4] at H
   have c4b0 : decide (0 ≤ a1) = true := decide_eq_true c4
   clear c4
   obtain rfl := Option.some.inj H
   have p157 : 0 ≤ (a1 : Int) := of_decide_eq_true (by first | (with_reducible assumption) | assumption)
   have q157 : a1 < (l0.length : Int) := of_decide_eq_true (by first | (with_reducible assumption) | assumption)
   obtain ⟨ad157, e157, hx157_0⟩ := Kd.at_int HR0.out a1 p157 q157
   cases e157
   replace p157 := eq_true p157
   replace q157 := eq_true q157
   go_enter Tryd.func38, Tryd.ntmps38
   go_wp2
   go_ret
   exact ⟨by first | rfl | (simp; done) | (simp [*]; done), by repeat (first | exact Drawn0.refl _ | apply Drawn0.step)⟩
  ·rw [if_neg c4] at H
   exact absurd H (by simp)
 ·rw [if_neg c3] at H
  have c3b0 : decide (a1 < (l0.length : Int)) = false := decide_eq_false c3
  clear c3
  obtain rfl := Option.some.inj H
  go_enter Tryd.func38, Tryd.ntmps38
  go_wp2
  go_ret
  exact ⟨by first | rfl | (simp; done) | (simp [*]; done), by repeat (first | exact Drawn0.refl _ | apply Drawn0.step)⟩

/-! ### tocsinref02_plus: function 35 -/
mutual
def tocsinref02_plus.l0 : Nat → List Int → List Int → List Int → Int → Int → Option (List Int)
 | 0, _, _, _, _, _ => none
 | k + 1, x0, x1, x5, x6, x7 => if x7 < (x0.length : Int) then (tocsinref02_plus.j1 k x0 x1 x5 x6 x7 true) else (if x7 < (x1.length : Int) then (tocsinref02_plus.j1 k x0 x1 x5 x6 x7 true) else (tocsinref02_plus.j1 k x0 x1 x5 x6 x7 (decide (x6 > 0))))
def tocsinref02_plus.j1 : Nat → List Int → List Int → List Int → Int → Int → Bool → Option (List Int)
 | 0, _, _, _, _, _, _ => none
 | k + 1, x0, x1, x5, x6, x7, x22 => if x22 = true then ((tocsinref02_digit.f x0 x7).bind fun t158 => ((tocsinref02_digit.f x1 x7).bind fun t159 => (if x5.length < 35184372088832 then (tocsinref02_plus.l0 k x0 x1 (x5 ++ [((t158 + t159) + x6) % 65536]) ((((t158 + t159) + x6) % 4294967296) / 65536) (wrap64 (x7 + 1))) else (none)))) else (some x5)
end
def tocsinref02_plus.f (k : Nat) (l0 : List Int) (l1 : List Int) : Option (List Int) := tocsinref02_plus.l0 k l0 l1 ([] : List Int) 0 0
theorem tocsinref02_plus.mono_l : ∀ k, (∀ y0 y1 y2 y3 y4, LeO (tocsinref02_plus.l0 k y0 y1 y2 y3 y4) (tocsinref02_plus.l0 (k + 1) y0 y1 y2 y3 y4)) ∧ (∀ y0 y1 y2 y3 y4 y5, LeO (tocsinref02_plus.j1 k y0 y1 y2 y3 y4 y5) (tocsinref02_plus.j1 (k + 1) y0 y1 y2 y3 y4 y5))
 | 0 => ⟨fun _ _ _ _ _ r h => by simp [tocsinref02_plus.l0] at h, fun _ _ _ _ _ _ r h => by simp [tocsinref02_plus.j1] at h⟩
 | k + 1 => by
  obtain ⟨ih0, ih1⟩ := tocsinref02_plus.mono_l k
  refine ⟨?_, ?_⟩
  ·intro y0 y1 y2 y3 y4
   unfold tocsinref02_plus.l0
   repeat' first
   | (with_reducible exact ih0 _ _ _ _ _)
   | (with_reducible exact ih1 _ _ _ _ _ _)
   | (with_reducible exact LeO.refl _)
   | (with_reducible exact LeO.none _)
   | (with_reducible refine LeO.ite ?_ ?_)
   | (with_reducible refine LeO.bind ?_ (fun _ => ?_))
   | exact ih0 _ _ _ _ _
   | exact ih1 _ _ _ _ _ _
   | exact LeO.none _
   | refine LeO.ite ?_ ?_
   | refine LeO.bind ?_ (fun _ => ?_)
  ·intro y0 y1 y2 y3 y4 y5
   unfold tocsinref02_plus.j1
   repeat' first
   | (with_reducible exact ih0 _ _ _ _ _)
   | (with_reducible exact ih1 _ _ _ _ _ _)
   | (with_reducible exact LeO.refl _)
   | (with_reducible exact LeO.none _)
   | (with_reducible refine LeO.ite ?_ ?_)
   | (with_reducible refine LeO.bind ?_ (fun _ => ?_))
   | exact ih0 _ _ _ _ _
   | exact ih1 _ _ _ _ _ _
   | exact LeO.none _
   | refine LeO.ite ?_ ?_
   | refine LeO.bind ?_ (fun _ => ?_)
theorem tocsinref02_plus.mono : ∀ a0 a1 k, LeO (tocsinref02_plus.f k a0 a1) (tocsinref02_plus.f (k + 1) a0 a1) := by
 intro a0 a1 k
 obtain ⟨ih0, ih1⟩ := tocsinref02_plus.mono_l k
 unfold tocsinref02_plus.f
 repeat' first
   | (with_reducible exact ih0 _ _ _ _ _)
   | (with_reducible exact ih1 _ _ _ _ _ _)
   | (with_reducible exact LeO.refl _)
   | (with_reducible exact LeO.none _)
   | (with_reducible refine LeO.ite ?_ ?_)
   | (with_reducible refine LeO.bind ?_ (fun _ => ?_))
   | exact ih0 _ _ _ _ _
   | exact ih1 _ _ _ _ _ _
   | exact LeO.none _
   | refine LeO.ite ?_ ?_
   | refine LeO.bind ?_ (fun _ => ?_)
set_option maxHeartbeats 8000000 in
set_option maxRecDepth 100000 in
theorem tocsinref02_plus.calls (k : Nat) (A0 : Option Addr) (c0 : Nat) (l0 : List Int) (A1 : Option Addr) (c1 : Nat) (l1 : List Int) (r : List Int) (w : World) (hr0 : Kd.C (Kd.int .u32) w A0 l0.length l0) (hc0 : l0.length ≤ c0) (hr1 : Kd.C (Kd.int .u32) w A1 l1.length l1) (hc1 : l1.length ≤ c1) (h : tocsinref02_plus.f k l0 l1 = some r) :
  Calls Tryd.prog 35 #[.slice A0 l0.length c0, .slice A1 l1.length c1] w fun e w' => ∃ v0_ : Value, e = .returned (v0_) ∧ Kd.R (Kd.int .u32) 51 w' w.heap.size (fun _ => True) v0_ r ∧ Below w.heap.size w w' := by
 have HR0 := Aside0.mk hr0
 have HC0 := Aside0.mk hc0
 clear hr0 hc0
 have HR1 := Aside0.mk hr1
 have HC1 := Aside0.mk hc1
 clear hr1 hc1
 have HB := Aside0.mk (Below.refl w.heap.size w)
 have H : (tocsinref02_plus.l0 k l0 l1 ([] : List Int) 0 0) = some r := h
 clear h
 have H' := Aside0.mk H
 clear H
 go_enter Tryd.func35, Tryd.ntmps35
 go_wp2
 (try simp only [Act.put, List.setIfInBounds_toArray, List.set_cons_zero, List.set_cons_succ])
 go_loopg [5, 6, 7] k (fun kq v5 v6 v7 w' => ∃ (x5_1 : List Int) (x6_1 : Int) (x7_1 : Int), v6 = .int .u32 x6_1 ∧ v7 = .int .i64 x7_1 ∧ Aside0 (tocsinref02_plus.l0 kq l0 l1 x5_1 x6_1 x7_1 = some r) ∧ Aside0 (kq ≤ k) ∧ Aside0 (Kd.R (Kd.int .u32) 51 w' w.heap.size (fun _ => True) v5 x5_1) ∧ Aside0 (Below w.heap.size w w'))
 case atStart => exact ⟨(([] : List Int)), (0), (0), (by first | rfl | (simp; done) | (simp [*]; done)), (by first | rfl | (simp; done) | (simp [*]; done)), H', ⟨Nat.le_refl _⟩, ⟨by first | exact Kd.R_nil _ _ _ _ _ | exact Kd.N_nil _ _ _ _ _ | exact Kd.V_nil _ _ _ _ _ | exact Kd.Q_nil _ _ _ _ _ | exact Kd.S_nil _ _ _ _ _⟩, ⟨by repeat (first | (with_reducible first | exact HB.out | apply below_alloc | apply pw_below_drewN | apply below_drew1) | exact HB.out)⟩⟩
 case round =>
  clear H'
  try clear c1
  try clear p2
  obtain ⟨x5_1, x6_1, x7_1, rfl, rfl, HA, HK1, HO_5, HB⟩ := hrel
  cases gk with
  | zero => exact absurd HA.out (by simp [tocsinref02_plus.l0])
  | succ k1 =>
   have H := HA.out
   clear HA
   simp only [tocsinref02_plus.l0] at H
   have HC3 := Aside0.mk H
   clear H
   go_upto_region 4 with (fail)
   go_cut [22] (fun v22 wc => ∃ (kq : Nat) (x22_2 : Bool), v22 = .bool x22_2 ∧ Aside0 (tocsinref02_plus.j1 kq l0 l1 x5_1 x6_1 x7_1 x22_2 = some r) ∧ Aside0 (kq ≤ k1) ∧ Aside0 (Kd.R (Kd.int .u32) 51 wc w.heap.size (fun _ => True) u5 x5_1) ∧ Aside0 (Below w.heap.size w wc))
   case first =>
    have H := HC3.out
    clear HC3
    by_cases c4 : x7_1 < (l0.length : Int)
    ·rw [if_pos c4] at H
     have c4b0 : decide (x7_1 < (l0.length : Int)) = true := decide_eq_true c4
     clear c4
     (first | rw [c4b0] | (simp only [i64_w, i32_w]; rw [c4b0]) | skip)
     have H' := Aside0.mk H
     clear H
     go_wp2
     go_meet
     case rel => exact ⟨_, (true), (by first | rfl | (simp; done) | (simp [*]; done)), H', ⟨by have := HK1.out; first | omega | exact Nat.le_refl _⟩, ⟨by (with_reducible repeat (first | apply Kd.R_alloc | apply Kd.R_drewN | apply Kd.R_drew)); exact HO_5.out⟩, ⟨by repeat (first | (with_reducible first | exact HB.out | apply below_alloc | apply pw_below_drewN | apply below_drew1) | exact HB.out)⟩⟩
    ·rw [if_neg c4] at H
     have c4b0 : decide (x7_1 < (l0.length : Int)) = false := decide_eq_false c4
     clear c4
     (first | rw [c4b0] | (simp only [i64_w, i32_w]; rw [c4b0]) | skip)
     by_cases c5 : x7_1 < (l1.length : Int)
     ·rw [if_pos c5] at H
      have c5b0 : decide (x7_1 < (l1.length : Int)) = true := decide_eq_true c5
      clear c5
      have H' := Aside0.mk H
      clear H
      go_wp2
      go_meet
      case rel => exact ⟨_, (true), (by first | rfl | (simp; done) | (simp [*]; done)), H', ⟨by have := HK1.out; first | omega | exact Nat.le_refl _⟩, ⟨by (with_reducible repeat (first | apply Kd.R_alloc | apply Kd.R_drewN | apply Kd.R_drew)); exact HO_5.out⟩, ⟨by repeat (first | (with_reducible first | exact HB.out | apply below_alloc | apply pw_below_drewN | apply below_drew1) | exact HB.out)⟩⟩
     ·rw [if_neg c5] at H
      have c5b0 : decide (x7_1 < (l1.length : Int)) = false := decide_eq_false c5
      clear c5
      have H' := Aside0.mk H
      clear H
      go_wp2
      go_meet
      case rel => exact ⟨_, (decide (x6_1 > 0)), (by first | rfl | (simp; done) | (simp [*]; done)), H', ⟨by have := HK1.out; first | omega | exact Nat.le_refl _⟩, ⟨by (with_reducible repeat (first | apply Kd.R_alloc | apply Kd.R_drewN | apply Kd.R_drew)); exact HO_5.out⟩, ⟨by repeat (first | (with_reducible first | exact HB.out | apply below_alloc | apply pw_below_drewN | apply below_drew1) | exact HB.out)⟩⟩
   case rest =>
    clear HC3
    try clear c1
    try clear p2
    try clear c3
    try clear c4
    try clear c4b0
    try clear c5
    try clear c5b0
    try clear p2
    obtain ⟨kq, x22_2, rfl, HA, HJ2, HO_5, HB⟩ := hcut
    cases kq with
    | zero => exact absurd HA.out (by simp [tocsinref02_plus.j1])
    | succ kj2 =>
     have H := HA.out
     clear HA
     simp only [tocsinref02_plus.j1] at H
     by_cases c6 : x22_2 = true
     ·subst c6
      have H1 : ((tocsinref02_digit.f l0 x7_1).bind fun t158 => ((tocsinref02_digit.f l1 x7_1).bind fun t159 => (if x5_1.length < 35184372088832 then (tocsinref02_plus.l0 kj2 l0 l1 (x5_1 ++ [((t158 + t159) + x6_1) % 65536]) ((((t158 + t159) + x6_1) % 4294967296) / 65536) (wrap64 (x7_1 + 1))) else (none)))) = some r := by rw [if_pos rfl] at H; exact H
      clear H
      have H := H1
      clear H1
      replace H := Option.bind_eq_some_iff.mp H
      obtain ⟨t158, A70, H⟩ := H
      replace H : ((tocsinref02_digit.f l1 x7_1).bind fun t159 => (if x5_1.length < 35184372088832 then (tocsinref02_plus.l0 kj2 l0 l1 (x5_1 ++ [((t158 + t159) + x6_1) % 65536]) ((((t158 + t159) + x6_1) % 4294967296) / 65536) (wrap64 (x7_1 + 1))) else (none))) = some r := H
      have A7 := Aside0.mk A70
      clear A70
      replace H := Option.bind_eq_some_iff.mp H
      obtain ⟨t159, A80, H⟩ := H
      replace H : (if x5_1.length < 35184372088832 then (tocsinref02_plus.l0 kj2 l0 l1 (x5_1 ++ [((t158 + t159) + x6_1) % 65536]) ((((t158 + t159) + x6_1) % 4294967296) / 65536) (wrap64 (x7_1 + 1))) else (none)) = some r := H
      have A8 := Aside0.mk A80
      clear A80
      by_cases c9 : x5_1.length < 35184372088832
      ·rw [if_pos c9] at H
       have LMc9 := Aside0.mk c9
       clear c9
       obtain ⟨y160, hy160⟩ : ∃ y_ : List Int, y_ = (x5_1 ++ [((t158 + t159) + x6_1) % 65536]) := ⟨_, rfl⟩
       replace H : (tocsinref02_plus.l0 kj2 l0 l1 y160 ((((t158 + t159) + x6_1) % 4294967296) / 65536) (wrap64 (x7_1 + 1))) = some r := by first | (rw [hy160]; with_reducible exact H) | (have H2_ := (Option.bind_some _ _).symm.trans H; rw [hy160]; with_reducible exact H2_) | (have H2_ := (Option.bind_some _ _).symm.trans H; with_reducible exact H2_) | with_reducible exact H | (rw [hy160]; exact H) | exact H
       have Ny160 := Aside0.mk hy160
       clear hy160
       have H' := Aside0.mk H
       clear H
       go_wp2_with (first | ((with_reducible refine gate_callee (f := 38) rfl ?_); refine goesL_ (some 27) rfl rfl Tryd.func38 (by kernel_rfl) rfl #[.slice A0 l0.length c0, .int .i64 x7_1] rfl (by (try simp only [List.map_toArray, List.map_cons, List.map_nil]); first | done | rfl | (simp only [List.length_drop, List.length_take]; rfl)) ?_; (with_reducible refine (tocsinref02_digit.calls _ _ l0 x7_1 t158 _ ?side1 ?side2 A7.out).mono ?_); (case side1 => repeat (first | exact (Kd.C_below HR0.out HB.out) | (with_reducible refine Kd.C_alloc ?_ _) | (with_reducible refine Kd.C_drewN ?_ _) | (with_reducible refine Kd.C_drew ?_))); (case side2 => exact HC0.out); rintro e w' ⟨rfl, ⟨nd, rfl⟩⟩; refine ⟨_, rfl, ?_⟩) | ((with_reducible refine gate_callee (f := 38) rfl ?_); refine goesL_ (some 30) rfl rfl Tryd.func38 (by kernel_rfl) rfl #[.slice A1 l1.length c1, .int .i64 x7_1] rfl (by (try simp only [List.map_toArray, List.map_cons, List.map_nil]); first | done | rfl | (simp only [List.length_drop, List.length_take]; rfl)) ?_; (with_reducible refine (tocsinref02_digit.calls _ _ l1 x7_1 t159 _ ?side1 ?side2 A8.out).mono ?_); (case side1 => repeat (first | exact (Kd.C_below HR1.out (by repeat (first | (with_reducible first | exact HB.out | apply below_alloc | apply pw_below_drewN | apply below_drew1) | exact HB.out))) | (with_reducible refine Kd.C_alloc ?_ _) | (with_reducible refine Kd.C_drewN ?_ _) | (with_reducible refine Kd.C_drew ?_))); (case side2 => exact HC1.out); rintro e w' ⟨rfl, ⟨nd, rfl⟩⟩; refine ⟨_, rfl, ?_⟩) | ((with_reducible refine gate_builtin (b := .append) (xs := #[.tmp 34, .tmp 37]) rfl ?_); (try (refine gate_guard (by rfl) ?_; dsimp only)); at_builtin; refine Kd.R_append (Kd.int .u32) (w0 := w) w.heap.size rfl (.tmp 34) (.tmp 37) 26 51 (.int .u32 0) 4 rfl Tryd.underlying26 info51 rfl (by decide) (by omega) u5 x5_1 (((t158 + t159) + x6_1) % 65536) [.int .u32 (((t158 + t159) + x6_1) % 65536)] (fun _ => True) (fun _ => False) rfl rfl ?aP (fun _ hk => hk.elim) ?aF ?aO ?aB ?aS ?aL ?_; (case aP => exact rfl); (case aB => exact (by repeat (first | (with_reducible first | exact HB.out | apply below_alloc | apply pw_below_drewN | apply below_drew1) | exact HB.out))); (case aF => exact (fun _ _ => trivial)); (case aO => exact (by (with_reducible repeat (first | apply Kd.R_alloc | apply Kd.R_drewN | apply Kd.R_drew)); exact HO_5.out)); (case aS => exact (below_size (by repeat (first | (with_reducible first | exact HB.out | apply below_alloc | apply pw_below_drewN | apply below_drew1) | exact HB.out)))); (case aL => have := LMc9.out; omega); intro v161 w10 ho hb hg hat; rw [← Ny160.out] at ho; have n0_ := Aside0.mk (hb); have n1_ := Aside0.mk (ho); clear HB; clear HO_5; have HB := n0_; have HO162 := n1_; clear n0_ n1_; clear ho hb hg hat))
       go_roundg kj2
       case measure => have := HK1.out; have := HJ2.out; omega
       case rel => exact ⟨(y160), ((((t158 + t159) + x6_1) % 4294967296) / 65536), (wrap64 (x7_1 + 1)), (by first | rfl | (simp; done) | (simp [*]; done)), (by first | rfl | (simp; done) | (simp [*]; done)), H', ⟨by have := HK1.out; have := HJ2.out; omega⟩, ⟨by (with_reducible repeat (first | apply Kd.R_alloc | apply Kd.R_drewN | apply Kd.R_drew)); exact HO162.out⟩, ⟨by repeat (first | (with_reducible first | exact HB.out | apply below_alloc | apply pw_below_drewN | apply below_drew1) | exact HB.out)⟩⟩
      ·rw [if_neg c9] at H
       exact absurd H (by simp)
     ·replace c6 := Bool.eq_false_iff.mpr c6
      subst c6
      have H1 : (some x5_1) = some r := by rw [if_neg (show ¬ (false = true) by decide)] at H; exact H
      clear H
      have H := H1
      clear H1
      obtain rfl := Option.some.inj H
      go_wp2
      go_ret
      exact ⟨_, by first | rfl | (simp [errW_none, errW_some] <;> rfl) | (simp [*, errW_none, errW_some] <;> rfl), by (with_reducible repeat (first | apply Kd.R_alloc | apply Kd.R_drewN | apply Kd.R_drew)); exact HO_5.out, by repeat (first | (with_reducible first | exact HB.out | apply below_alloc | apply pw_below_drewN | apply below_drew1) | exact HB.out)⟩

end Go.Proofs.YtccicjiadahmnaaDoor.T
