/- Contracts of functions that the statements reach, written by a program of this claim's own; no condition. -/
import Derived.Test.YtccicjiadahmnaaDoorV0
namespace Go.Proofs.YtccicjiadahmnaaDoor.V
open Go.RowKit Go.Proofs.YtccicjiadahmnaaDoorW.PrintWords Go.Proofs.YtccicjiadahmnaaDoorW.PrintLast Go.Proofs.YtccicjiadahmnaaDoorW.PrintMore
attribute [local go_sem] max2_int min2_int max_two min_two max_three min_three max_four min_four   -- for this text's walks alone
set_option linter.unusedVariables false
set_option linter.unusedSimpArgs false

/-! ### tocsinref02_trim: function 34 -/
def tocsinref02_trim.l0 : Nat → List Int → Bool → Option (List Int × Bool)
 | 0, _, _ => none
 | k + 1, x109000, x109001 => if (x109000.length : Int) > 0 then (if 0 ≤ (wrap64 ((x109000.length : Int) - 1)) then (if (wrap64 ((x109000.length : Int) - 1)) < (x109000.length : Int) then (if (rd x109000 (wrap64 ((x109000.length : Int) - 1))) = 0 then (if (wrap64 ((x109000.length : Int) - 1)) ≤ (x109000.length : Int) then (tocsinref02_trim.l0 k (x109000.take ((wrap64 ((x109000.length : Int) - 1)) : Int).toNat) x109001) else (none)) else (if (x109000.length : Int) = 0 then (some (x109000, false)) else (some (x109000, x109001)))) else (none)) else (none)) else (if (x109000.length : Int) = 0 then (some (x109000, false)) else (some (x109000, x109001)))
def tocsinref02_trim.f (k : Nat) (l0_0 : List Int) (a0_1 : Bool) : Option (List Int × Bool) := tocsinref02_trim.l0 k l0_0 a0_1
theorem tocsinref02_trim.mono_l : ∀ k, (∀ y0 y1, LeO (tocsinref02_trim.l0 k y0 y1) (tocsinref02_trim.l0 (k + 1) y0 y1))
 | 0 => fun _ _ r h => by simp [tocsinref02_trim.l0] at h
 | k + 1 => by
  have ih0 := tocsinref02_trim.mono_l k
  ·intro y0 y1
   unfold tocsinref02_trim.l0
   repeat' first
   | (with_reducible exact ih0 _ _)
   | (with_reducible exact LeO.refl _)
   | (with_reducible exact LeO.none _)
   | (with_reducible refine LeO.ite ?_ ?_)
   | (with_reducible refine LeO.bind ?_ (fun _ => ?_))
   | exact ih0 _ _
   | exact LeO.none _
   | refine LeO.ite ?_ ?_
   | refine LeO.bind ?_ (fun _ => ?_)
theorem tocsinref02_trim.mono : ∀ a0 a1 k, LeO (tocsinref02_trim.f k a0 a1) (tocsinref02_trim.f (k + 1) a0 a1) := by
 intro a0 a1 k
 have ih0 := tocsinref02_trim.mono_l k
 unfold tocsinref02_trim.f
 repeat' first
   | (with_reducible exact ih0 _ _)
   | (with_reducible exact LeO.refl _)
   | (with_reducible exact LeO.none _)
   | (with_reducible refine LeO.ite ?_ ?_)
   | (with_reducible refine LeO.bind ?_ (fun _ => ?_))
   | exact ih0 _ _
   | exact LeO.none _
   | refine LeO.ite ?_ ?_
   | refine LeO.bind ?_ (fun _ => ?_)
set_option maxHeartbeats 8000000 in
set_option maxRecDepth 100000 in
theorem tocsinref02_trim.calls (k : Nat) (P0_0_ : Nat → Prop) (A0_0 : Option Addr) (c0_0 : Nat) (l0_0 : List Int) (a0_1 : Bool) (r1 : List Int) (r2 : Bool) (w : World) (hs0_0 : Kd.V (Kd.int .u32) 51 w w.heap.size (fun k_ => P0_0_ k_) (.slice A0_0 l0_0.length c0_0) l0_0) (h : tocsinref02_trim.f k l0_0 a0_1 = some (r1, r2)) :
  Calls Tryd.prog 34 #[.agg #[.slice A0_0 l0_0.length c0_0, .bool a0_1]] w fun e w' => ∃ v0_ : Value, e = .returned (.agg #[v0_, .bool r2]) ∧ Kd.V (Kd.int .u32) 51 w' w.heap.size (fun k_ => (P0_0_ k_ ∨ w.heap.size ≤ k_)) v0_ r1 ∧ Below w.heap.size w w' := by
 have hu28 := Tryd.underlying28
 have HO0_0 := Aside0.mk (show Kd.V (Kd.int .u32) 51 w w.heap.size (fun k_ => (P0_0_ k_ ∨ w.heap.size ≤ k_)) (.slice A0_0 l0_0.length c0_0) l0_0 from Kd.V_mono hs0_0 (fun k_ hk => .inl hk))
 have HB := Aside0.mk (Below.refl w.heap.size w)
 have H : (tocsinref02_trim.l0 k l0_0 a0_1) = some (r1, r2) := h
 clear h
 have H' := Aside0.mk H
 clear H
 go_enter Tryd.func34, Tryd.ntmps34
 go_wp2_with (first | ((with_reducible refine gate_dst (N := 1) rfl ?_); (try (refine gate_guard (by rfl) ?_; dsimp only)); refine box_event ?hg (N := 1) ?hd (cs := #[.slice A0_0 l0_0.length c0_0, .bool a0_1]) (t := 28) ?hr ?_; (case hd => rfl); (case hg => rfl); (case hr => first | (go_simp; done) | (go_simp; rfl)); intro gb108 hg w2 hbox hb; have n0_ := Aside0.mk (Kd.V_below (Kd.V_elderB (by (with_reducible repeat (first | apply Kd.V_alloc | apply Kd.V_drewN | apply Kd.V_drew)); exact HO0_0.out) gb108 (Nat.le_of_eq hg.symm)) hb); have n1_ := Aside0.mk (below_step (by repeat (first | (with_reducible first | exact HB.out | apply below_alloc | apply pw_below_drewN | apply below_drew1) | exact HB.out)) hb); have n2_ := Aside0.mk (hbox); have n3_ := Aside0.mk ((by rw [hg]; exact (below_size (by repeat (first | (with_reducible first | exact HB.out | apply below_alloc | apply pw_below_drewN | apply below_drew1) | exact HB.out))) : w.heap.size ≤ gb108)); have n4_ := Aside0.mk ((by rw [hg]; exact (below_size (by repeat (first | (with_reducible first | exact HB.out | apply below_alloc | apply pw_below_drewN | apply below_drew1) | exact HB.out))) : w.heap.size ≤ gb108)); clear HO0_0; clear HB; have HO0_0 := n0_; have HB := n1_; have BK108 := n2_; have GW108 := n3_; have GE108 := n4_; clear n0_ n1_ n2_ n3_ n4_; clear hb hbox hg) | ((with_reducible refine gate_dst (N := 2) rfl ?_); (try (refine gate_guard (by rfl) ?_; dsimp only)); refine box_event ?hg (N := 2) ?hd (cs := #[.slice none 0 0, .bool false]) (t := 28) ?hr ?_; (case hd => rfl); (case hg => rfl); (case hr => first | (go_simp; done) | (go_simp; rfl)); intro gb109 hg w3 hbox hb; have n0_ := Aside0.mk (Kd.V_below (Kd.V_elderB (by (with_reducible repeat (first | apply Kd.V_alloc | apply Kd.V_drewN | apply Kd.V_drew)); exact HO0_0.out) gb109 (Nat.le_of_eq hg.symm)) hb); have n1_ := Aside0.mk (blk_below (g := gb108) (o := .cells #[.slice A0_0 l0_0.length c0_0, .bool a0_1] 28 (0, 0)) (by (with_reducible repeat (first | refine blk_drewN ?_ _ | refine blk_drew ?_ | refine blk_alloc ?_ _)); exact BK108.out) hb); have n2_ := Aside0.mk (below_step (by repeat (first | (with_reducible first | exact HB.out | apply below_alloc | apply pw_below_drewN | apply below_drew1 | refine below_set ?_ GE108.out) | exact HB.out)) hb); have n3_ := Aside0.mk (hbox); have n4_ := Aside0.mk ((by rw [hg]; exact (below_size (by repeat (first | (with_reducible first | exact HB.out | apply below_alloc | apply pw_below_drewN | apply below_drew1 | refine below_set ?_ GE108.out) | exact HB.out))) : w.heap.size ≤ gb109)); have n5_ := Aside0.mk ((by rw [hg]; exact (below_size (by repeat (first | (with_reducible first | exact HB.out | apply below_alloc | apply pw_below_drewN | apply below_drew1 | refine below_set ?_ GE108.out) | exact HB.out))) : w.heap.size ≤ gb109)); have n6_ := Aside0.mk ((by rw [hg]; exact Nat.ne_of_lt (blk_lt (g := gb108) (o := .cells #[.slice A0_0 l0_0.length c0_0, .bool a0_1] 28 (0, 0)) (by (with_reducible repeat (first | refine blk_drewN ?_ _ | refine blk_drew ?_ | refine blk_alloc ?_ _)); exact BK108.out)) : gb108 ≠ gb109)); have n7_ := Aside0.mk ((by rw [hg]; exact Nat.ne_of_gt (blk_lt (g := gb108) (o := .cells #[.slice A0_0 l0_0.length c0_0, .bool a0_1] 28 (0, 0)) (by (with_reducible repeat (first | refine blk_drewN ?_ _ | refine blk_drew ?_ | refine blk_alloc ?_ _)); exact BK108.out)) : gb109 ≠ gb108)); clear HO0_0; clear BK108; clear HB; have HO0_0 := n0_; have BK108 := n1_; have HB := n2_; have BK109 := n3_; have GW109 := n4_; have GE109 := n5_; have NB108_109 := n6_; have NB109_108 := n7_; clear n0_ n1_ n2_ n3_ n4_ n5_ n6_ n7_; clear hb hbox hg))
 (try simp only [Act.put, List.setIfInBounds_toArray, List.set_cons_zero, List.set_cons_succ])
 go_loopg [] k (fun kq w' => ∃ (x109000_1 : List Int) (u109000 : Value), Aside0 (tocsinref02_trim.l0 kq x109000_1 a0_1 = some (r1, r2)) ∧ Aside0 (kq ≤ k) ∧ Aside0 (Kd.V (Kd.int .u32) 51 w' w.heap.size (fun k_ => (P0_0_ k_ ∨ w.heap.size ≤ k_) ∧ k_ ≠ gb108 ∧ k_ ≠ gb109) u109000 x109000_1) ∧ Aside0 (w'.heap[gb108]? = some (.cells #[u109000, .bool a0_1] 28 (0, 0))) ∧ Aside0 (w'.heap[gb109]? = some (.cells #[(.slice none 0 0), .bool false] 28 (0, 0))) ∧ Aside0 (Below w.heap.size w w'))
 case atStart => exact ⟨(l0_0), (.slice A0_0 l0_0.length c0_0), H', ⟨Nat.le_refl _⟩, ⟨by (with_reducible repeat (first | apply Kd.V_alloc | apply Kd.V_drewN | apply Kd.V_drew)); exact Kd.V_mono HO0_0.out (fun _ hk => ⟨hk.1.1, ⟨hk.1.2, hk.2⟩⟩)⟩, ⟨by (with_reducible repeat (first | refine blk_drewN ?_ _ | refine blk_drew ?_ | refine blk_alloc ?_ _)); exact BK108.out⟩, ⟨by (with_reducible repeat (first | refine blk_drewN ?_ _ | refine blk_drew ?_ | refine blk_alloc ?_ _)); exact BK109.out⟩, ⟨by repeat (first | (with_reducible first | exact HB.out | apply below_alloc | apply pw_below_drewN | apply below_drew1 | refine below_set ?_ GE108.out | refine below_set ?_ GE109.out) | exact HB.out)⟩⟩
 case round =>
  clear H'
  try clear p2
  try clear c3
  obtain ⟨x109000_1, u109000, HA, HK1, HO_109000, BK108, BK109, HB⟩ := hrel
  cases gk with
  | zero => exact absurd HA.out (by simp [tocsinref02_trim.l0])
  | succ k1 =>
   have H := HA.out
   clear HA
   simp only [tocsinref02_trim.l0] at H
   by_cases c4 : (x109000_1.length : Int) > 0
   ·rw [if_pos c4] at H
    have c4b0 : decide (0 < (x109000_1.length : Int)) = true := decide_eq_true c4
    have c4b1 : decide (0 < x109000_1.length) = true := decide_eq_true (by omega)
    clear c4
    obtain ⟨ji5, hji5⟩ : ∃ j_ : Int, (wrap64 ((x109000_1.length : Int) - 1)) = j_ := ⟨_, rfl⟩
    replace H : (if 0 ≤ (ji5) then (if (ji5) < (x109000_1.length : Int) then (if (rd x109000_1 (ji5)) = 0 then (if (ji5) ≤ (x109000_1.length : Int) then (tocsinref02_trim.l0 k1 (x109000_1.take ((ji5) : Int).toNat) a0_1) else (none)) else (if (x109000_1.length : Int) = 0 then (some (x109000_1, false)) else (some (x109000_1, a0_1)))) else (none)) else (none)) = some (r1, r2) := by first | (rw [hji5] at H; exact H) | (simp only [hji5] at H ⊢; exact H)
    have hji5w : (IntKind.i64.wrap ((x109000_1.length : Int) - 1)) = ji5 := (i64_w _).trans hji5
    by_cases c6 : 0 ≤ (ji5)
    ·rw [if_pos c6] at H
     have c6b0 : decide (0 ≤ (ji5)) = true := decide_eq_true c6
     clear c6
     by_cases c7 : (ji5) < (x109000_1.length : Int)
     ·rw [if_pos c7] at H
      have c7b0 : decide ((ji5) < (x109000_1.length : Int)) = true := decide_eq_true c7
      clear c7
      by_cases c8 : (rd x109000_1 (ji5)) = 0
      ·rw [if_pos c8] at H
       have c8b0 : ((rd x109000_1 (ji5)) == 0) = true := beq_iff_eq.mpr c8
       have c8b1 : ((rd x109000_1 (ji5)) != 0) = false := bne_eq_false_iff_eq.mpr c8
       clear c8
       have c9b0 := eq_true (of_decide_eq_true (by first | (with_reducible assumption) | assumption) : 0 ≤ (ji5))
       by_cases c10 : (ji5) ≤ (x109000_1.length : Int)
       ·rw [if_pos c10] at H
        have c10b0 := eq_true c10
        have c10b1 : decide ((ji5) ≤ (x109000_1.length : Int)) = true := decide_eq_true c10
        clear c10
        obtain ⟨y111, hy111⟩ : ∃ y_ : List Int, y_ = (x109000_1.take ((ji5) : Int).toNat) := ⟨_, rfl⟩
        replace H : (tocsinref02_trim.l0 k1 y111 a0_1) = some (r1, r2) := by first | (rw [hy111]; with_reducible exact H) | (have H2_ := (Option.bind_some _ _).symm.trans H; rw [hy111]; with_reducible exact H2_) | (have H2_ := (Option.bind_some _ _).symm.trans H; with_reducible exact H2_) | with_reducible exact H | (rw [hy111]; exact H) | exact H
        have Ny111 := Aside0.mk hy111
        clear hy111
        have H' := Aside0.mk H
        clear H
        have hnb11 := NB108_109.out
        have hnc11 := NB109_108.out
        have hcz12_0 : wr.cell? ⟨gb108, 0, none⟩ = some (u109000) := (blk_cell BK108.out 0).trans rfl
        have hcz12_1 : wr.cell? ⟨gb108, 1, none⟩ = some (.bool a0_1) := (blk_cell BK108.out 1).trans rfl
        have hfz12_0 := blk_frozen BK108.out 0
        have hfz12_1 := blk_frozen BK108.out 1
        obtain ⟨Ao13, co13, eo13⟩ := Kd.V_slice HO_109000.out
        subst eo13
        have p110 : 0 ≤ ((ji5) : Int) := of_decide_eq_true (by first | (with_reducible assumption) | assumption)
        have q110 : (ji5) < (x109000_1.length : Int) := of_decide_eq_true (by first | (with_reducible assumption) | assumption)
        obtain ⟨ad110, e110, hx110_0⟩ := Kd.at_int (Kd.V_reads' HO_109000.out).2.2 (ji5) p110 q110
        cases e110
        replace p110 := eq_true p110
        replace q110 := eq_true q110
        have q14 : ((ji5) : Int) ≤ ((x109000_1.length : Int) : Int) := of_decide_eq_true (by first | (with_reducible assumption) | assumption)
        obtain ⟨i014, hi014, _, hsz14, _⟩ := info_parts info51
        have hroom14 : x109000_1.length ≤ co13 := (Kd.V_reads' HO_109000.out).2.1
        have hC14 : Kd.F (Kd.int .u32) _ _ (some ad110) x109000_1.length x109000_1 := (Kd.V_at (base := w.heap.size) HO_109000.out).2.2
        have hcut14 := cut_to (P := Tryd.prog) 26 51 .i64 Tryd.underlying26 hi014 (some ad110) x109000_1.length co13 (ji5) (of_decide_eq_true (by first | (with_reducible assumption) | assumption)) q14 hroom14
        have hr14 := Kd.F_take (m := ((ji5) : Int).toNat) hC14 (by omega)
        have hy14 : y111.length = ((ji5) : Int).toNat := (by rw [Ny111.out, List.length_take]; omega)
        rw [← Ny111.out] at hr14
        rw [← hy14] at hcut14
        have HO115 := Aside0.mk (show Kd.V (Kd.int .u32) 51 _ w.heap.size _ (.slice (some ad110) y111.length co13) y111 from Kd.V_mk (by omega) hr14)
        have HC115 := Aside0.mk (show y111.length ≤ co13 from by omega)
        clear hr14 hC14 hroom14 hi014 hsz14
        have KY14 := Aside0.mk hy14
        clear hy14
        replace q14 := eq_true q14
        go_wp2
        all_goals try (exfalso; (try have z0_ := of_decide_eq_true c4b1); (try have z1_ := of_decide_eq_true c7b0); (try have z2_ := of_decide_eq_true c10b1); omega)
        go_roundg k1
        case measure => have := HK1.out; omega
        case rel => exact ⟨(y111), (.slice (some ad110) y111.length co13), H', ⟨by have := HK1.out; omega⟩, ⟨by (with_reducible repeat (first | apply Kd.V_alloc | apply Kd.V_drewN | apply Kd.V_drew)); exact Kd.V_mono (Kd.V_far (p := ⟨gb108, 0, none⟩) (Kd.V_mono HO115.out (fun k_ hk => (⟨hk, hk.2.1⟩ : _ ∧ k_ ≠ gb108))) (fun _ hk => hk.2) (.slice (some ad110) y111.length co13)) (fun _ hk => ⟨hk.1.1, ⟨hk.1.2.1, hk.1.2.2⟩⟩)⟩, ⟨by (with_reducible repeat (first | refine blk_drewN ?_ _ | refine blk_drew ?_ | refine blk_alloc ?_ _)); refine blk_put (cs := #[.slice (some ad110) x109000_1.length co13, .bool a0_1]) ?_ 0 _ (by first | rfl | (simp [*]; done)); (with_reducible repeat (first | refine blk_drewN ?_ _ | refine blk_drew ?_ | refine blk_alloc ?_ _)); exact BK108.out⟩, ⟨by (with_reducible repeat (first | refine blk_drewN ?_ _ | refine blk_drew ?_ | refine blk_alloc ?_ _)); refine blk_far ?_ NB109_108.out _; (with_reducible repeat (first | refine blk_drewN ?_ _ | refine blk_drew ?_ | refine blk_alloc ?_ _)); exact BK109.out⟩, ⟨by repeat (first | (with_reducible first | exact HB.out | apply below_alloc | apply pw_below_drewN | apply below_drew1 | refine below_set ?_ GE108.out | refine below_set ?_ GE109.out) | exact HB.out)⟩⟩
       ·rw [if_neg c10] at H
        exact absurd H (by simp)
      ·rw [if_neg c8] at H
       have c8b0 : ((rd x109000_1 (ji5)) == 0) = false := beq_eq_false_iff_ne.mpr c8
       have c8b1 : ((rd x109000_1 (ji5)) != 0) = true := bne_iff_ne.mpr c8
       by_cases c15 : (x109000_1.length : Int) = 0
       ·rw [if_pos c15] at H
        have c15b0 : ((x109000_1.length : Int) == 0) = true := beq_iff_eq.mpr c15
        have c15b1 : ((x109000_1.length : Int) != 0) = false := bne_eq_false_iff_eq.mpr c15
        clear c15
        simp only [Option.some.injEq, Prod.mk.injEq] at H
        obtain ⟨rfl, rfl⟩ := H
        have hnb16 := NB108_109.out
        have hnc16 := NB109_108.out
        have hcz17_0 : wr.cell? ⟨gb108, 0, none⟩ = some (u109000) := (blk_cell BK108.out 0).trans rfl
        have hcz17_1 : wr.cell? ⟨gb108, 1, none⟩ = some (.bool a0_1) := (blk_cell BK108.out 1).trans rfl
        have hfz17_0 := blk_frozen BK108.out 0
        have hfz17_1 := blk_frozen BK108.out 1
        obtain ⟨Ao18, co18, eo18⟩ := Kd.V_slice HO_109000.out
        subst eo18
        have p110 : 0 ≤ ((ji5) : Int) := of_decide_eq_true (by first | (with_reducible assumption) | assumption)
        have q110 : (ji5) < (x109000_1.length : Int) := of_decide_eq_true (by first | (with_reducible assumption) | assumption)
        obtain ⟨ad110, e110, hx110_0⟩ := Kd.at_int (Kd.V_reads' HO_109000.out).2.2 (ji5) p110 q110
        cases e110
        replace p110 := eq_true p110
        replace q110 := eq_true q110
        have hcz19_0 : wr.cell? ⟨gb109, 0, none⟩ = some (.slice none 0 0) := (blk_cell BK109.out 0).trans rfl
        have hcz19_1 : wr.cell? ⟨gb109, 1, none⟩ = some (.bool false) := (blk_cell BK109.out 1).trans rfl
        have hfz19_0 := blk_frozen BK109.out 0
        have hfz19_1 := blk_frozen BK109.out 1
        go_wp2
        all_goals try (exfalso; (try have z0_ := of_decide_eq_true c4b0); (try have z1_ := of_decide_eq_true c4b1); (try have z2_ := of_decide_eq_true c7b0); omega)
        refine bodyPost_ret (results_cell_row rfl _ _ gb109 28 #[.slice (some ad110) x109000_1.length co18, .bool false] (0, 0) _ rfl (by (with_reducible repeat (first | refine blk_drewN ?_ _ | refine blk_drew ?_ | refine blk_alloc ?_ _)); refine blk_put (cs := #[.slice (some ad110) x109000_1.length co18, .bool false]) ?_ 1 _ (by first | rfl | (simp [*]; done)); (with_reducible repeat (first | refine blk_drewN ?_ _ | refine blk_drew ?_ | refine blk_alloc ?_ _)); refine blk_put (cs := #[.slice none 0 0, .bool false]) ?_ 0 _ (by first | rfl | (simp [*]; done)); (with_reducible repeat (first | refine blk_drewN ?_ _ | refine blk_drew ?_ | refine blk_alloc ?_ _)); refine blk_far ?_ NB109_108.out _; (with_reducible repeat (first | refine blk_drewN ?_ _ | refine blk_drew ?_ | refine blk_alloc ?_ _)); exact BK109.out) Tryd.underlying28 rfl (by kernel_rfl)) rfl ?_
        exact ⟨_, by first | rfl | (simp [errW_none, errW_some] <;> rfl) | (simp only [← hji5]; first | rfl | (simp [errW_none, errW_some] <;> rfl)) | (simp [*, errW_none, errW_some] <;> rfl), by (with_reducible repeat (first | apply Kd.V_alloc | apply Kd.V_drewN | apply Kd.V_drew)); exact Kd.V_mono (Kd.V_far (p := ⟨gb109, 1, none⟩) (Kd.V_far (p := ⟨gb109, 0, none⟩) (Kd.V_far (p := ⟨gb108, 1, none⟩) (Kd.V_mono (Kd.V_mono HO_109000.out (fun k_ hk => (⟨hk, hk.2.1⟩ : _ ∧ k_ ≠ gb108))) (fun k_ hk => (⟨hk, hk.1.2.2⟩ : _ ∧ k_ ≠ gb109))) (fun _ hk => hk.1.2) (.bool false)) (fun _ hk => hk.2) (.slice (some ad110) x109000_1.length co18)) (fun _ hk => hk.2) (.bool false)) (fun _ hk => hk.1.1.1), by repeat (first | (with_reducible first | exact HB.out | apply below_alloc | apply pw_below_drewN | apply below_drew1 | refine below_set ?_ GE108.out | refine below_set ?_ GE109.out) | exact HB.out)⟩
       ·rw [if_neg c15] at H
        have c15b0 : ((x109000_1.length : Int) == 0) = false := beq_eq_false_iff_ne.mpr c15
        have c15b1 : ((x109000_1.length : Int) != 0) = true := bne_iff_ne.mpr c15
        have c15b2 : ¬ (x109000_1 = []) := fun h_ => c15 (by rw [h_]; rfl)
        simp only [Option.some.injEq, Prod.mk.injEq] at H
        obtain ⟨rfl, rfl⟩ := H
        have hnb20 := NB108_109.out
        have hnc20 := NB109_108.out
        have hcz21_0 : wr.cell? ⟨gb108, 0, none⟩ = some (u109000) := (blk_cell BK108.out 0).trans rfl
        have hcz21_1 : wr.cell? ⟨gb108, 1, none⟩ = some (.bool a0_1) := (blk_cell BK108.out 1).trans rfl
        have hfz21_0 := blk_frozen BK108.out 0
        have hfz21_1 := blk_frozen BK108.out 1
        obtain ⟨Ao22, co22, eo22⟩ := Kd.V_slice HO_109000.out
        subst eo22
        have p110 : 0 ≤ ((ji5) : Int) := of_decide_eq_true (by first | (with_reducible assumption) | assumption)
        have q110 : (ji5) < (x109000_1.length : Int) := of_decide_eq_true (by first | (with_reducible assumption) | assumption)
        obtain ⟨ad110, e110, hx110_0⟩ := Kd.at_int (Kd.V_reads' HO_109000.out).2.2 (ji5) p110 q110
        cases e110
        replace p110 := eq_true p110
        replace q110 := eq_true q110
        have hcz23_0 : wr.cell? ⟨gb109, 0, none⟩ = some (.slice none 0 0) := (blk_cell BK109.out 0).trans rfl
        have hcz23_1 : wr.cell? ⟨gb109, 1, none⟩ = some (.bool false) := (blk_cell BK109.out 1).trans rfl
        have hfz23_0 := blk_frozen BK109.out 0
        have hfz23_1 := blk_frozen BK109.out 1
        go_wp2
        all_goals try (exfalso; (try have z0_ := of_decide_eq_true c4b0); (try have z1_ := of_decide_eq_true c4b1); (try have z2_ := of_decide_eq_true c7b0); omega)
        refine bodyPost_ret (results_cell_row rfl _ _ gb109 28 #[.slice (some ad110) x109000_1.length co22, .bool a0_1] (0, 0) _ rfl (by (with_reducible repeat (first | refine blk_drewN ?_ _ | refine blk_drew ?_ | refine blk_alloc ?_ _)); refine blk_put (cs := #[.slice (some ad110) x109000_1.length co22, .bool false]) ?_ 1 _ (by first | rfl | (simp [*]; done)); (with_reducible repeat (first | refine blk_drewN ?_ _ | refine blk_drew ?_ | refine blk_alloc ?_ _)); refine blk_put (cs := #[.slice none 0 0, .bool false]) ?_ 0 _ (by first | rfl | (simp [*]; done)); (with_reducible repeat (first | refine blk_drewN ?_ _ | refine blk_drew ?_ | refine blk_alloc ?_ _)); exact BK109.out) Tryd.underlying28 rfl (by kernel_rfl)) rfl ?_
        exact ⟨_, by first | rfl | (simp [errW_none, errW_some] <;> rfl) | (simp only [← hji5]; first | rfl | (simp [errW_none, errW_some] <;> rfl)) | (simp [*, errW_none, errW_some] <;> rfl), by (with_reducible repeat (first | apply Kd.V_alloc | apply Kd.V_drewN | apply Kd.V_drew)); exact Kd.V_mono (Kd.V_far (p := ⟨gb109, 1, none⟩) (Kd.V_far (p := ⟨gb109, 0, none⟩) (Kd.V_mono HO_109000.out (fun k_ hk => (⟨hk, hk.2.2⟩ : _ ∧ k_ ≠ gb109))) (fun _ hk => hk.2) (.slice (some ad110) x109000_1.length co22)) (fun _ hk => hk.2) (.bool a0_1)) (fun _ hk => hk.1.1), by repeat (first | (with_reducible first | exact HB.out | apply below_alloc | apply pw_below_drewN | apply below_drew1 | refine below_set ?_ GE108.out | refine below_set ?_ GE109.out) | exact HB.out)⟩
     ·rw [if_neg c7] at H
      exact absurd H (by simp)
    ·rw [if_neg c6] at H
     exact absurd H (by simp)
   ·rw [if_neg c4] at H
    have c4b0 : decide (0 < (x109000_1.length : Int)) = false := decide_eq_false c4
    have c4b1 : decide (0 < x109000_1.length) = false := decide_eq_false (by omega)
    clear c4
    by_cases c24 : (x109000_1.length : Int) = 0
    ·rw [if_pos c24] at H
     have c24b0 : ((x109000_1.length : Int) == 0) = true := beq_iff_eq.mpr c24
     have c24b1 : ((x109000_1.length : Int) != 0) = false := bne_eq_false_iff_eq.mpr c24
     clear c24
     simp only [Option.some.injEq, Prod.mk.injEq] at H
     obtain ⟨rfl, rfl⟩ := H
     have hnb25 := NB108_109.out
     have hnc25 := NB109_108.out
     have hcz26_0 : wr.cell? ⟨gb108, 0, none⟩ = some (u109000) := (blk_cell BK108.out 0).trans rfl
     have hcz26_1 : wr.cell? ⟨gb108, 1, none⟩ = some (.bool a0_1) := (blk_cell BK108.out 1).trans rfl
     have hfz26_0 := blk_frozen BK108.out 0
     have hfz26_1 := blk_frozen BK108.out 1
     obtain ⟨Ao27, co27, eo27⟩ := Kd.V_slice HO_109000.out
     subst eo27
     have hcz28_0 : wr.cell? ⟨gb109, 0, none⟩ = some (.slice none 0 0) := (blk_cell BK109.out 0).trans rfl
     have hcz28_1 : wr.cell? ⟨gb109, 1, none⟩ = some (.bool false) := (blk_cell BK109.out 1).trans rfl
     have hfz28_0 := blk_frozen BK109.out 0
     have hfz28_1 := blk_frozen BK109.out 1
     go_wp2
     all_goals try (exfalso; (try have z0_ := of_decide_eq_true c4b1); (try have z1_ := of_decide_eq_false c4b0); (try have z2_ := of_decide_eq_false c4b1); omega)
     refine bodyPost_ret (results_cell_row rfl _ _ gb109 28 #[.slice Ao27 x109000_1.length co27, .bool false] (0, 0) _ rfl (by (with_reducible repeat (first | refine blk_drewN ?_ _ | refine blk_drew ?_ | refine blk_alloc ?_ _)); refine blk_put (cs := #[.slice Ao27 x109000_1.length co27, .bool false]) ?_ 1 _ (by first | rfl | (simp [*]; done)); (with_reducible repeat (first | refine blk_drewN ?_ _ | refine blk_drew ?_ | refine blk_alloc ?_ _)); refine blk_put (cs := #[.slice none 0 0, .bool false]) ?_ 0 _ (by first | rfl | (simp [*]; done)); (with_reducible repeat (first | refine blk_drewN ?_ _ | refine blk_drew ?_ | refine blk_alloc ?_ _)); refine blk_far ?_ NB109_108.out _; (with_reducible repeat (first | refine blk_drewN ?_ _ | refine blk_drew ?_ | refine blk_alloc ?_ _)); exact BK109.out) Tryd.underlying28 rfl (by kernel_rfl)) rfl ?_
     exact ⟨_, by first | rfl | (simp [errW_none, errW_some] <;> rfl) | (simp [*, errW_none, errW_some] <;> rfl), by (with_reducible repeat (first | apply Kd.V_alloc | apply Kd.V_drewN | apply Kd.V_drew)); exact Kd.V_mono (Kd.V_far (p := ⟨gb109, 1, none⟩) (Kd.V_far (p := ⟨gb109, 0, none⟩) (Kd.V_far (p := ⟨gb108, 1, none⟩) (Kd.V_mono (Kd.V_mono HO_109000.out (fun k_ hk => (⟨hk, hk.2.1⟩ : _ ∧ k_ ≠ gb108))) (fun k_ hk => (⟨hk, hk.1.2.2⟩ : _ ∧ k_ ≠ gb109))) (fun _ hk => hk.1.2) (.bool false)) (fun _ hk => hk.2) (.slice Ao27 x109000_1.length co27)) (fun _ hk => hk.2) (.bool false)) (fun _ hk => hk.1.1.1), by repeat (first | (with_reducible first | exact HB.out | apply below_alloc | apply pw_below_drewN | apply below_drew1 | refine below_set ?_ GE108.out | refine below_set ?_ GE109.out) | exact HB.out)⟩
    ·rw [if_neg c24] at H
     have c24b0 : ((x109000_1.length : Int) == 0) = false := beq_eq_false_iff_ne.mpr c24
     have c24b1 : ((x109000_1.length : Int) != 0) = true := bne_iff_ne.mpr c24
     have c24b2 : ¬ (x109000_1 = []) := fun h_ => c24 (by rw [h_]; rfl)
     simp only [Option.some.injEq, Prod.mk.injEq] at H
     obtain ⟨rfl, rfl⟩ := H
     have hnb29 := NB108_109.out
     have hnc29 := NB109_108.out
     have hcz30_0 : wr.cell? ⟨gb108, 0, none⟩ = some (u109000) := (blk_cell BK108.out 0).trans rfl
     have hcz30_1 : wr.cell? ⟨gb108, 1, none⟩ = some (.bool a0_1) := (blk_cell BK108.out 1).trans rfl
     have hfz30_0 := blk_frozen BK108.out 0
     have hfz30_1 := blk_frozen BK108.out 1
     obtain ⟨Ao31, co31, eo31⟩ := Kd.V_slice HO_109000.out
     subst eo31
     have hcz32_0 : wr.cell? ⟨gb109, 0, none⟩ = some (.slice none 0 0) := (blk_cell BK109.out 0).trans rfl
     have hcz32_1 : wr.cell? ⟨gb109, 1, none⟩ = some (.bool false) := (blk_cell BK109.out 1).trans rfl
     have hfz32_0 := blk_frozen BK109.out 0
     have hfz32_1 := blk_frozen BK109.out 1
     go_wp2
     refine bodyPost_ret (results_cell_row rfl _ _ gb109 28 #[.slice Ao31 x109000_1.length co31, .bool a0_1] (0, 0) _ rfl (by (with_reducible repeat (first | refine blk_drewN ?_ _ | refine blk_drew ?_ | refine blk_alloc ?_ _)); refine blk_put (cs := #[.slice Ao31 x109000_1.length co31, .bool false]) ?_ 1 _ (by first | rfl | (simp [*]; done)); (with_reducible repeat (first | refine blk_drewN ?_ _ | refine blk_drew ?_ | refine blk_alloc ?_ _)); refine blk_put (cs := #[.slice none 0 0, .bool false]) ?_ 0 _ (by first | rfl | (simp [*]; done)); (with_reducible repeat (first | refine blk_drewN ?_ _ | refine blk_drew ?_ | refine blk_alloc ?_ _)); exact BK109.out) Tryd.underlying28 rfl (by kernel_rfl)) rfl ?_
     exact ⟨_, by first | rfl | (simp [errW_none, errW_some] <;> rfl) | (simp [*, errW_none, errW_some] <;> rfl), by (with_reducible repeat (first | apply Kd.V_alloc | apply Kd.V_drewN | apply Kd.V_drew)); exact Kd.V_mono (Kd.V_far (p := ⟨gb109, 1, none⟩) (Kd.V_far (p := ⟨gb109, 0, none⟩) (Kd.V_mono HO_109000.out (fun k_ hk => (⟨hk, hk.2.2⟩ : _ ∧ k_ ≠ gb109))) (fun _ hk => hk.2) (.slice Ao31 x109000_1.length co31)) (fun _ hk => hk.2) (.bool a0_1)) (fun _ hk => hk.1.1), by repeat (first | (with_reducible first | exact HB.out | apply below_alloc | apply pw_below_drewN | apply below_drew1 | refine below_set ?_ GE108.out | refine below_set ?_ GE109.out) | exact HB.out)⟩

/-! ### tocsinref02_digit: function 38 -/
def tocsinref02_digit.f (l0 : List Int) (a1 : Int) : Option (Int) := if a1 < (l0.length : Int) then (if 0 ≤ a1 then (some (rd l0 a1)) else (none)) else (some 0)
set_option maxHeartbeats 8000000 in
set_option maxRecDepth 100000 in
theorem tocsinref02_digit.calls (A0 : Option Addr) (c0 : Nat) (l0 : List Int) (a1 : Int) (r : Int) (w : World) (hr0 : Kd.C (Kd.int .u32) w A0 l0.length l0) (hc0 : l0.length ≤ c0) (h : tocsinref02_digit.f l0 a1 = some r) :
  Calls Tryd.prog 38 #[.slice A0 l0.length c0, .int .i64 a1] w fun e w' => e = .returned (.int .u32 r) ∧ Drawn0 w w' := by
 have HR0 := Aside0.mk hr0
 have HC0 := Aside0.mk hc0
 clear hr0 hc0
 have H : (if a1 < (l0.length : Int) then (if 0 ≤ a1 then (some (rd l0 a1)) else (none)) else (some 0)) = some r := h
 clear h
 by_cases c3 : a1 < (l0.length : Int)
 ·rw [if_pos c3] at H
  have c3b0 : decide (a1 < (l0.length : Int)) = true := decide_eq_true c3
  clear c3
  by_cases c4 : 0 ≤ a1
  ·rw [if_pos c4] at H
   have c4b0 : decide (0 ≤ a1) = true := decide_eq_true c4
   clear c4
   obtain rfl := Option.some.inj H
   have p116 : 0 ≤ (a1 : Int) := of_decide_eq_true (by first | (with_reducible assumption) | assumption)
   have q116 : a1 < (l0.length : Int) := of_decide_eq_true (by first | (with_reducible assumption) | assumption)
   obtain ⟨ad116, e116, hx116_0⟩ := Kd.at_int HR0.out a1 p116 q116
   cases e116
   replace p116 := eq_true p116
   replace q116 := eq_true q116
   go_enter Tryd.func38, Tryd.ntmps38
   go_wp2
   all_goals try (exfalso; (try have z0_ := of_decide_eq_true c3b0); omega)
   go_ret
   exact ⟨by first | rfl | (simp; done) | (simp [*]; done), by repeat (first | exact Drawn0.refl _ | apply Drawn0.step)⟩
  ·rw [if_neg c4] at H
   exact absurd H (by simp)
 ·rw [if_neg c3] at H
  have c3b0 : decide (a1 < (l0.length : Int)) = false := decide_eq_false c3
  clear c3
  obtain rfl := Option.some.inj H
  go_enter Tryd.func38, Tryd.ntmps38
  go_wp2
  all_goals try (exfalso; (try have z0_ := of_decide_eq_true c3b0); (try have z1_ := of_decide_eq_false c3b0); omega)
  go_ret
  exact ⟨by first | rfl | (simp; done) | (simp [*]; done), by repeat (first | exact Drawn0.refl _ | apply Drawn0.step)⟩

end Go.Proofs.YtccicjiadahmnaaDoor.V
