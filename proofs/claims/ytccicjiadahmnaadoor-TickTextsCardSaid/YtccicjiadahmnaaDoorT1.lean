/- Contracts of functions that the statements reach, written by a program of this claim's own; no condition. -/
import Derived.Test.YtccicjiadahmnaaDoorT0
import Derived.Test.YtccicjiadahmnaaDoorFix
import Derived.Test.YtccicjiadahmnaaDoorMd2
import Derived.Test.YtccicjiadahmnaaDoorTabs
namespace Go.Proofs.YtccicjiadahmnaaDoor.T
open Go.RowKit Go.Proofs.YtccicjiadahmnaaDoorW.PrintWords Go.Proofs.YtccicjiadahmnaaDoorW.PrintLast Go.Proofs.YtccicjiadahmnaaDoorW.PrintMore
attribute [local go_sem] max2_int min2_int max_two min_two max_three min_three max_four min_four   -- for this text's walks alone
set_option linter.unusedVariables false
set_option linter.unusedSimpArgs false

/-! ### tick_Clamp: function 29 -/
def tick_Clamp.f (a0 : Int) (a1 : Int) (a2 : Int) : Option (Int) := if a0 < a1 then (some a1) else (if a0 > a2 then (some a2) else (some a0))
set_option maxHeartbeats 8000000 in
set_option maxRecDepth 100000 in
theorem tick_Clamp.calls (a0 : Int) (a1 : Int) (a2 : Int) (r : Int) (w : World) (h : tick_Clamp.f a0 a1 a2 = some r) :
  Calls Tryd.prog 29 #[.int .i64 a0, .int .i64 a1, .int .i64 a2] w fun e w' => e = .returned (.int .i64 r) ∧ Drawn0 w w' := by
 have H : (if a0 < a1 then (some a1) else (if a0 > a2 then (some a2) else (some a0))) = some r := h
 clear h
 by_cases c4 : a0 < a1
 ·rw [if_pos c4] at H
  have c4b0 : decide (a0 < a1) = true := decide_eq_true c4
  clear c4
  obtain rfl := Option.some.inj H
  go_enter Tryd.func29, Tryd.ntmps29
  go_wp2
  go_ret
  exact ⟨by first | rfl | (simp; done) | (simp [*]; done), by repeat (first | exact Drawn0.refl _ | apply Drawn0.step)⟩
 ·rw [if_neg c4] at H
  have c4b0 : decide (a0 < a1) = false := decide_eq_false c4
  clear c4
  by_cases c5 : a0 > a2
  ·rw [if_pos c5] at H
   have c5b0 : decide (a2 < a0) = true := decide_eq_true c5
   clear c5
   obtain rfl := Option.some.inj H
   go_enter Tryd.func29, Tryd.ntmps29
   go_wp2
   go_ret
   exact ⟨by first | rfl | (simp; done) | (simp [*]; done), by repeat (first | exact Drawn0.refl _ | apply Drawn0.step)⟩
  ·rw [if_neg c5] at H
   have c5b0 : decide (a2 < a0) = false := decide_eq_false c5
   clear c5
   obtain rfl := Option.some.inj H
   go_enter Tryd.func29, Tryd.ntmps29
   go_wp2
   go_ret
   exact ⟨by first | rfl | (simp; done) | (simp [*]; done), by repeat (first | exact Drawn0.refl _ | apply Drawn0.step)⟩

/-! ### tocsinlaw02_TickClamps: function 8 -/
def tocsinlaw02_TickClamps.f (a0 : Int) (a1 : Int) (a2 : Int) : Option (Bool) := (Hd.tocsinlaw02_fixed.f).bind fun t101 => (if t101 = true then ((tick_Clamp.f a0 a1 a2).bind fun t102 => (if a0 < a1 then (some (t102 == a1)) else (if a0 > a2 then (some (t102 == a2)) else (some (t102 == a0))))) else (some false))
set_option maxHeartbeats 8000000 in
set_option maxRecDepth 100000 in
theorem tocsinlaw02_TickClamps.calls (a0 : Int) (a1 : Int) (a2 : Int) (r : Bool) (w : World) (h : tocsinlaw02_TickClamps.f a0 a1 a2 = some r) (hT : Tabs w) :
  Calls Tryd.prog 8 #[.int .i64 a0, .int .i64 a1, .int .i64 a2] w fun e w' => e = .returned (.bool r) ∧ Below w.heap.size w w' := by
 have HT := Aside0.mk hT
 clear hT
 have HB := Aside0.mk (Below.refl w.heap.size w)
 have H : ((Hd.tocsinlaw02_fixed.f).bind fun t101 => (if t101 = true then ((tick_Clamp.f a0 a1 a2).bind fun t102 => (if a0 < a1 then (some (t102 == a1)) else (if a0 > a2 then (some (t102 == a2)) else (some (t102 == a0))))) else (some false))) = some r := h
 clear h
 replace H := Option.bind_eq_some_iff.mp H
 obtain ⟨t101, A40, H⟩ := H
 replace H : (if t101 = true then ((tick_Clamp.f a0 a1 a2).bind fun t102 => (if a0 < a1 then (some (t102 == a1)) else (if a0 > a2 then (some (t102 == a2)) else (some (t102 == a0))))) else (some false)) = some r := H
 have A4 := Aside0.mk A40
 clear A40
 by_cases c5 : t101 = true
 ·subst c5
  have H1 : ((tick_Clamp.f a0 a1 a2).bind fun t102 => (if a0 < a1 then (some (t102 == a1)) else (if a0 > a2 then (some (t102 == a2)) else (some (t102 == a0))))) = some r := by rw [if_pos rfl] at H; exact H
  clear H
  have H := H1
  clear H1
  replace H := Option.bind_eq_some_iff.mp H
  obtain ⟨t102, A60, H⟩ := H
  replace H : (if a0 < a1 then (some (t102 == a1)) else (if a0 > a2 then (some (t102 == a2)) else (some (t102 == a0)))) = some r := H
  have A6 := Aside0.mk A60
  clear A60
  by_cases c7 : a0 < a1
  ·rw [if_pos c7] at H
   have c7b0 : decide (a0 < a1) = true := decide_eq_true c7
   clear c7
   obtain rfl := Option.some.inj H
   go_enter Tryd.func8, Tryd.ntmps8
   go_wp2_with (first | ((with_reducible refine gate_callee (f := 10) rfl ?_); refine goesL_ (some 8) rfl rfl Tryd.func10 (by kernel_rfl) rfl #[] rfl (by (try simp only [List.map_toArray, List.map_cons, List.map_nil]); first | done | rfl | (simp only [List.length_drop, List.length_take]; rfl)) ?_; (with_reducible refine (Hd.tocsinlaw02_fixed.calls  true _ A4.out ?side1).mono ?_); (case side1 => exact Tabs.below HT.out (by repeat (first | (with_reducible first | exact HB.out | apply below_alloc | apply pw_below_drewN | apply below_drew1) | exact HB.out))); rintro e w8 ⟨rfl, hb⟩; refine ⟨_, rfl, ?_⟩; have n0_ := Aside0.mk (below_step (by repeat (first | (with_reducible first | exact HB.out | apply below_alloc | apply pw_below_drewN | apply below_drew1) | exact HB.out)) hb); clear HB; have HB := n0_; clear n0_; (try clear hb); (try clear hb2); (try clear hk); (try clear hi)) | ((with_reducible refine gate_callee (f := 29) rfl ?_); refine goesL_ (some 13) rfl rfl Tryd.func29 (by kernel_rfl) rfl #[.int .i64 a0, .int .i64 a1, .int .i64 a2] rfl (by (try simp only [List.map_toArray, List.map_cons, List.map_nil]); first | done | rfl | (simp only [List.length_drop, List.length_take]; rfl)) ?_; (with_reducible refine (tick_Clamp.calls a0 a1 a2 t102 _ A6.out).mono ?_); rintro e w' ⟨rfl, ⟨nd, rfl⟩⟩; refine ⟨_, rfl, ?_⟩))
   go_ret
   exact ⟨by first | rfl | (simp [errW_none, errW_some] <;> rfl) | (simp [*, errW_none, errW_some] <;> rfl), by repeat (first | (with_reducible first | exact HB.out | apply below_alloc | apply pw_below_drewN | apply below_drew1) | exact HB.out)⟩
  ·rw [if_neg c7] at H
   have c7b0 : decide (a0 < a1) = false := decide_eq_false c7
   clear c7
   by_cases c9 : a0 > a2
   ·rw [if_pos c9] at H
    have c9b0 : decide (a2 < a0) = true := decide_eq_true c9
    clear c9
    obtain rfl := Option.some.inj H
    go_enter Tryd.func8, Tryd.ntmps8
    go_wp2_with (first | ((with_reducible refine gate_callee (f := 10) rfl ?_); refine goesL_ (some 8) rfl rfl Tryd.func10 (by kernel_rfl) rfl #[] rfl (by (try simp only [List.map_toArray, List.map_cons, List.map_nil]); first | done | rfl | (simp only [List.length_drop, List.length_take]; rfl)) ?_; (with_reducible refine (Hd.tocsinlaw02_fixed.calls  true _ A4.out ?side1).mono ?_); (case side1 => exact Tabs.below HT.out (by repeat (first | (with_reducible first | exact HB.out | apply below_alloc | apply pw_below_drewN | apply below_drew1) | exact HB.out))); rintro e w10 ⟨rfl, hb⟩; refine ⟨_, rfl, ?_⟩; have n0_ := Aside0.mk (below_step (by repeat (first | (with_reducible first | exact HB.out | apply below_alloc | apply pw_below_drewN | apply below_drew1) | exact HB.out)) hb); clear HB; have HB := n0_; clear n0_; (try clear hb); (try clear hb2); (try clear hk); (try clear hi)) | ((with_reducible refine gate_callee (f := 29) rfl ?_); refine goesL_ (some 13) rfl rfl Tryd.func29 (by kernel_rfl) rfl #[.int .i64 a0, .int .i64 a1, .int .i64 a2] rfl (by (try simp only [List.map_toArray, List.map_cons, List.map_nil]); first | done | rfl | (simp only [List.length_drop, List.length_take]; rfl)) ?_; (with_reducible refine (tick_Clamp.calls a0 a1 a2 t102 _ A6.out).mono ?_); rintro e w' ⟨rfl, ⟨nd, rfl⟩⟩; refine ⟨_, rfl, ?_⟩))
    go_ret
    exact ⟨by first | rfl | (simp [errW_none, errW_some] <;> rfl) | (simp [*, errW_none, errW_some] <;> rfl), by repeat (first | (with_reducible first | exact HB.out | apply below_alloc | apply pw_below_drewN | apply below_drew1) | exact HB.out)⟩
   ·rw [if_neg c9] at H
    have c9b0 : decide (a2 < a0) = false := decide_eq_false c9
    clear c9
    obtain rfl := Option.some.inj H
    go_enter Tryd.func8, Tryd.ntmps8
    go_wp2_with (first | ((with_reducible refine gate_callee (f := 10) rfl ?_); refine goesL_ (some 8) rfl rfl Tryd.func10 (by kernel_rfl) rfl #[] rfl (by (try simp only [List.map_toArray, List.map_cons, List.map_nil]); first | done | rfl | (simp only [List.length_drop, List.length_take]; rfl)) ?_; (with_reducible refine (Hd.tocsinlaw02_fixed.calls  true _ A4.out ?side1).mono ?_); (case side1 => exact Tabs.below HT.out (by repeat (first | (with_reducible first | exact HB.out | apply below_alloc | apply pw_below_drewN | apply below_drew1) | exact HB.out))); rintro e w11 ⟨rfl, hb⟩; refine ⟨_, rfl, ?_⟩; have n0_ := Aside0.mk (below_step (by repeat (first | (with_reducible first | exact HB.out | apply below_alloc | apply pw_below_drewN | apply below_drew1) | exact HB.out)) hb); clear HB; have HB := n0_; clear n0_; (try clear hb); (try clear hb2); (try clear hk); (try clear hi)) | ((with_reducible refine gate_callee (f := 29) rfl ?_); refine goesL_ (some 13) rfl rfl Tryd.func29 (by kernel_rfl) rfl #[.int .i64 a0, .int .i64 a1, .int .i64 a2] rfl (by (try simp only [List.map_toArray, List.map_cons, List.map_nil]); first | done | rfl | (simp only [List.length_drop, List.length_take]; rfl)) ?_; (with_reducible refine (tick_Clamp.calls a0 a1 a2 t102 _ A6.out).mono ?_); rintro e w' ⟨rfl, ⟨nd, rfl⟩⟩; refine ⟨_, rfl, ?_⟩))
    go_ret
    exact ⟨by first | rfl | (simp [errW_none, errW_some] <;> rfl) | (simp [*, errW_none, errW_some] <;> rfl), by repeat (first | (with_reducible first | exact HB.out | apply below_alloc | apply pw_below_drewN | apply below_drew1) | exact HB.out)⟩
 ·replace c5 := Bool.eq_false_iff.mpr c5
  subst c5
  have H1 : (some false) = some r := by rw [if_neg (show ¬ (false = true) by decide)] at H; exact H
  clear H
  have H := H1
  clear H1
  obtain rfl := Option.some.inj H
  go_enter Tryd.func8, Tryd.ntmps8
  go_wp2_with (first | ((with_reducible refine gate_callee (f := 10) rfl ?_); refine goesL_ (some 8) rfl rfl Tryd.func10 (by kernel_rfl) rfl #[] rfl (by (try simp only [List.map_toArray, List.map_cons, List.map_nil]); first | done | rfl | (simp only [List.length_drop, List.length_take]; rfl)) ?_; (with_reducible refine (Hd.tocsinlaw02_fixed.calls  false _ A4.out ?side1).mono ?_); (case side1 => exact Tabs.below HT.out (by repeat (first | (with_reducible first | exact HB.out | apply below_alloc | apply pw_below_drewN | apply below_drew1) | exact HB.out))); rintro e w12 ⟨rfl, hb⟩; refine ⟨_, rfl, ?_⟩; have n0_ := Aside0.mk (below_step (by repeat (first | (with_reducible first | exact HB.out | apply below_alloc | apply pw_below_drewN | apply below_drew1) | exact HB.out)) hb); clear HB; have HB := n0_; clear n0_; (try clear hb); (try clear hb2); (try clear hk); (try clear hi)))
  go_ret
  exact ⟨by first | rfl | (simp [errW_none, errW_some] <;> rfl) | (simp [*, errW_none, errW_some] <;> rfl), by repeat (first | (with_reducible first | exact HB.out | apply below_alloc | apply pw_below_drewN | apply below_drew1) | exact HB.out)⟩

/-- THE ONE PURE STATEMENT of tocsinlaw02_TickClamps: yours. -/
def tocsinlaw02_TickClamps.Pure : Prop := ∀ (a0 : Int) (a1 : Int) (a2 : Int), (Lit.int .i64 a0).wf = true → (Lit.int .i64 a1).wf = true → (Lit.int .i64 a2).wf = true → tocsinlaw02_TickClamps.f a0 a1 a2 = some true
theorem tocsinlaw02_TickClamps.walk (P : tocsinlaw02_TickClamps.Pure) (a0 : Int) (a1 : Int) (a2 : Int) (w : World) (w0 : (Lit.int .i64 a0).wf = true) (w1 : (Lit.int .i64 a1).wf = true) (w2 : (Lit.int .i64 a2).wf = true) (hT : Tabs w) :
  Calls Tryd.prog 8 #[.int .i64 a0, .int .i64 a1, .int .i64 a2] w fun e w' => e = .returned (.bool true) ∧ Below w.heap.size w w' := by
 have h := P a0 a1 a2 w0 w1 w2
 refine (tocsinlaw02_TickClamps.calls a0 a1 a2 true w h hT).mono ?_
 rintro e w' ⟨rfl, hd⟩
 exact ⟨rfl, hd⟩

/-! ### tocsinlaw02_TickFloors: function 9 -/
def tocsinlaw02_TickFloors.f (a0 : Int) (a1 : Int) (a2 : Int) : Option (Bool) := (Hd.tocsinlaw02_fixed.f).bind fun t103 => (if t103 = true then (if (wrap64 (a2)) ≤ 0 then ((Hd.tick_MulDiv.f (wrap64 (a0)) (wrap64 (a1)) (wrap64 (a2))).bind fun bt104 => (some (bt104.2 == 1))) else ((Hd.tick_MulDiv.f (wrap64 (a0)) (wrap64 (a1)) (wrap64 (a2))).bind fun bt106 => (if bt106.2 = 0 then (if (wrap64 ((wrap64 ((wrap64 (a0)) * (wrap64 (a1)))) - (wrap64 (bt106.1 * (wrap64 (a2)))))) ≥ 0 then (some (decide ((wrap64 ((wrap64 ((wrap64 (a0)) * (wrap64 (a1)))) - (wrap64 (bt106.1 * (wrap64 (a2)))))) < (wrap64 (a2))))) else (some false)) else (some false)))) else (some false))
set_option maxHeartbeats 8000000 in
set_option maxRecDepth 100000 in
theorem tocsinlaw02_TickFloors.calls (a0 : Int) (a1 : Int) (a2 : Int) (r : Bool) (w : World) (h : tocsinlaw02_TickFloors.f a0 a1 a2 = some r) (hT : Tabs w) :
  Calls Tryd.prog 9 #[.int .i32 a0, .int .i32 a1, .int .i32 a2] w fun e w' => e = .returned (.bool r) ∧ Below w.heap.size w w' := by
 have HT := Aside0.mk hT
 clear hT
 have HB := Aside0.mk (Below.refl w.heap.size w)
 have H : ((Hd.tocsinlaw02_fixed.f).bind fun t103 => (if t103 = true then (if (wrap64 (a2)) ≤ 0 then ((Hd.tick_MulDiv.f (wrap64 (a0)) (wrap64 (a1)) (wrap64 (a2))).bind fun bt104 => (some (bt104.2 == 1))) else ((Hd.tick_MulDiv.f (wrap64 (a0)) (wrap64 (a1)) (wrap64 (a2))).bind fun bt106 => (if bt106.2 = 0 then (if (wrap64 ((wrap64 ((wrap64 (a0)) * (wrap64 (a1)))) - (wrap64 (bt106.1 * (wrap64 (a2)))))) ≥ 0 then (some (decide ((wrap64 ((wrap64 ((wrap64 (a0)) * (wrap64 (a1)))) - (wrap64 (bt106.1 * (wrap64 (a2)))))) < (wrap64 (a2))))) else (some false)) else (some false)))) else (some false))) = some r := h
 clear h
 replace H := Option.bind_eq_some_iff.mp H
 obtain ⟨t103, A40, H⟩ := H
 replace H : (if t103 = true then (if (wrap64 (a2)) ≤ 0 then ((Hd.tick_MulDiv.f (wrap64 (a0)) (wrap64 (a1)) (wrap64 (a2))).bind fun bt104 => (some (bt104.2 == 1))) else ((Hd.tick_MulDiv.f (wrap64 (a0)) (wrap64 (a1)) (wrap64 (a2))).bind fun bt106 => (if bt106.2 = 0 then (if (wrap64 ((wrap64 ((wrap64 (a0)) * (wrap64 (a1)))) - (wrap64 (bt106.1 * (wrap64 (a2)))))) ≥ 0 then (some (decide ((wrap64 ((wrap64 ((wrap64 (a0)) * (wrap64 (a1)))) - (wrap64 (bt106.1 * (wrap64 (a2)))))) < (wrap64 (a2))))) else (some false)) else (some false)))) else (some false)) = some r := H
 have A4 := Aside0.mk A40
 clear A40
 by_cases c5 : t103 = true
 ·subst c5
  have H1 : (if (wrap64 (a2)) ≤ 0 then ((Hd.tick_MulDiv.f (wrap64 (a0)) (wrap64 (a1)) (wrap64 (a2))).bind fun bt104 => (some (bt104.2 == 1))) else ((Hd.tick_MulDiv.f (wrap64 (a0)) (wrap64 (a1)) (wrap64 (a2))).bind fun bt106 => (if bt106.2 = 0 then (if (wrap64 ((wrap64 ((wrap64 (a0)) * (wrap64 (a1)))) - (wrap64 (bt106.1 * (wrap64 (a2)))))) ≥ 0 then (some (decide ((wrap64 ((wrap64 ((wrap64 (a0)) * (wrap64 (a1)))) - (wrap64 (bt106.1 * (wrap64 (a2)))))) < (wrap64 (a2))))) else (some false)) else (some false)))) = some r := by rw [if_pos rfl] at H; exact H
  clear H
  have H := H1
  clear H1
  by_cases c6 : (wrap64 (a2)) ≤ 0
  ·rw [if_pos c6] at H
   have c6b0 : decide ((wrap64 (a2)) ≤ 0) = true := decide_eq_true c6
   clear c6
   replace H := Option.bind_eq_some_iff.mp H
   obtain ⟨⟨t104, t105⟩, A70, H⟩ := H
   replace H : (some (t105 == 1)) = some r := H
   have A7 := Aside0.mk A70
   clear A70
   obtain rfl := Option.some.inj H
   go_enter Tryd.func9, Tryd.ntmps9
   go_wp2_with (first | ((with_reducible refine gate_callee (f := 10) rfl ?_); refine goesL_ (some 14) rfl rfl Tryd.func10 (by kernel_rfl) rfl #[] rfl (by (try simp only [List.map_toArray, List.map_cons, List.map_nil]); first | done | rfl | (simp only [List.length_drop, List.length_take]; rfl)) ?_; (with_reducible refine (Hd.tocsinlaw02_fixed.calls  true _ A4.out ?side1).mono ?_); (case side1 => exact Tabs.below HT.out (by repeat (first | (with_reducible first | exact HB.out | apply below_alloc | apply pw_below_drewN | apply below_drew1) | exact HB.out))); rintro e w8 ⟨rfl, hb⟩; refine ⟨_, rfl, ?_⟩; have n0_ := Aside0.mk (below_step (by repeat (first | (with_reducible first | exact HB.out | apply below_alloc | apply pw_below_drewN | apply below_drew1) | exact HB.out)) hb); clear HB; have HB := n0_; clear n0_; (try clear hb); (try clear hb2); (try clear hk); (try clear hi)) | ((with_reducible refine gate_callee (f := 19) rfl ?_); refine goesL_ (some 26) rfl rfl Tryd.func19 (by kernel_rfl) rfl #[.int .i64 (wrap64 (a0)), .int .i64 (wrap64 (a1)), .int .i64 (wrap64 (a2))] rfl (by (try simp only [List.map_toArray, List.map_cons, List.map_nil]); first | done | rfl | (simp only [List.length_drop, List.length_take]; rfl)) ?_; (with_reducible refine (Hd.tick_MulDiv.calls (wrap64 (a0)) (wrap64 (a1)) (wrap64 (a2)) t104 t105 _ A7.out).mono ?_); rintro e w9 ⟨rfl, hb⟩; refine ⟨_, rfl, ?_⟩; have n0_ := Aside0.mk (below_step (by repeat (first | (with_reducible first | exact HB.out | apply below_alloc | apply pw_below_drewN | apply below_drew1) | exact HB.out)) hb); clear HB; have HB := n0_; clear n0_; (try clear hb); (try clear hb2); (try clear hk); (try clear hi)))
   go_ret
   exact ⟨by first | rfl | (simp [errW_none, errW_some] <;> rfl) | (simp [*, errW_none, errW_some] <;> rfl), by repeat (first | (with_reducible first | exact HB.out | apply below_alloc | apply pw_below_drewN | apply below_drew1) | exact HB.out)⟩
  ·rw [if_neg c6] at H
   have c6b0 : decide ((wrap64 (a2)) ≤ 0) = false := decide_eq_false c6
   clear c6
   replace H := Option.bind_eq_some_iff.mp H
   obtain ⟨⟨t106, t107⟩, A100, H⟩ := H
   replace H : (if t107 = 0 then (if (wrap64 ((wrap64 ((wrap64 (a0)) * (wrap64 (a1)))) - (wrap64 (t106 * (wrap64 (a2)))))) ≥ 0 then (some (decide ((wrap64 ((wrap64 ((wrap64 (a0)) * (wrap64 (a1)))) - (wrap64 (t106 * (wrap64 (a2)))))) < (wrap64 (a2))))) else (some false)) else (some false)) = some r := H
   have A10 := Aside0.mk A100
   clear A100
   by_cases c11 : t107 = 0
   ·rw [if_pos c11] at H
    have c11b0 : (t107 == 0) = true := beq_iff_eq.mpr c11
    have c11b1 : (t107 != 0) = false := bne_eq_false_iff_eq.mpr c11
    clear c11
    by_cases c12 : (wrap64 ((wrap64 ((wrap64 (a0)) * (wrap64 (a1)))) - (wrap64 (t106 * (wrap64 (a2)))))) ≥ 0
    ·rw [if_pos c12] at H
     have c12b0 : decide (0 ≤ (wrap64 ((wrap64 ((wrap64 (a0)) * (wrap64 (a1)))) - (wrap64 (t106 * (wrap64 (a2))))))) = true := decide_eq_true c12
     clear c12
     obtain rfl := Option.some.inj H
     go_enter Tryd.func9, Tryd.ntmps9
     go_wp2_with (first | ((with_reducible refine gate_callee (f := 10) rfl ?_); refine goesL_ (some 14) rfl rfl Tryd.func10 (by kernel_rfl) rfl #[] rfl (by (try simp only [List.map_toArray, List.map_cons, List.map_nil]); first | done | rfl | (simp only [List.length_drop, List.length_take]; rfl)) ?_; (with_reducible refine (Hd.tocsinlaw02_fixed.calls  true _ A4.out ?side1).mono ?_); (case side1 => exact Tabs.below HT.out (by repeat (first | (with_reducible first | exact HB.out | apply below_alloc | apply pw_below_drewN | apply below_drew1) | exact HB.out))); rintro e w13 ⟨rfl, hb⟩; refine ⟨_, rfl, ?_⟩; have n0_ := Aside0.mk (below_step (by repeat (first | (with_reducible first | exact HB.out | apply below_alloc | apply pw_below_drewN | apply below_drew1) | exact HB.out)) hb); clear HB; have HB := n0_; clear n0_; (try clear hb); (try clear hb2); (try clear hk); (try clear hi)) | ((with_reducible refine gate_callee (f := 19) rfl ?_); refine goesL_ (some 37) rfl rfl Tryd.func19 (by kernel_rfl) rfl #[.int .i64 (wrap64 (a0)), .int .i64 (wrap64 (a1)), .int .i64 (wrap64 (a2))] rfl (by (try simp only [List.map_toArray, List.map_cons, List.map_nil]); first | done | rfl | (simp only [List.length_drop, List.length_take]; rfl)) ?_; (with_reducible refine (Hd.tick_MulDiv.calls (wrap64 (a0)) (wrap64 (a1)) (wrap64 (a2)) t106 t107 _ A10.out).mono ?_); rintro e w14 ⟨rfl, hb⟩; refine ⟨_, rfl, ?_⟩; have n0_ := Aside0.mk (below_step (by repeat (first | (with_reducible first | exact HB.out | apply below_alloc | apply pw_below_drewN | apply below_drew1) | exact HB.out)) hb); clear HB; have HB := n0_; clear n0_; (try clear hb); (try clear hb2); (try clear hk); (try clear hi)))
     go_ret
     exact ⟨by first | rfl | (simp [errW_none, errW_some] <;> rfl) | (simp [*, errW_none, errW_some] <;> rfl), by repeat (first | (with_reducible first | exact HB.out | apply below_alloc | apply pw_below_drewN | apply below_drew1) | exact HB.out)⟩
    ·rw [if_neg c12] at H
     have c12b0 : decide (0 ≤ (wrap64 ((wrap64 ((wrap64 (a0)) * (wrap64 (a1)))) - (wrap64 (t106 * (wrap64 (a2))))))) = false := decide_eq_false c12
     clear c12
     obtain rfl := Option.some.inj H
     go_enter Tryd.func9, Tryd.ntmps9
     go_wp2_with (first | ((with_reducible refine gate_callee (f := 10) rfl ?_); refine goesL_ (some 14) rfl rfl Tryd.func10 (by kernel_rfl) rfl #[] rfl (by (try simp only [List.map_toArray, List.map_cons, List.map_nil]); first | done | rfl | (simp only [List.length_drop, List.length_take]; rfl)) ?_; (with_reducible refine (Hd.tocsinlaw02_fixed.calls  true _ A4.out ?side1).mono ?_); (case side1 => exact Tabs.below HT.out (by repeat (first | (with_reducible first | exact HB.out | apply below_alloc | apply pw_below_drewN | apply below_drew1) | exact HB.out))); rintro e w15 ⟨rfl, hb⟩; refine ⟨_, rfl, ?_⟩; have n0_ := Aside0.mk (below_step (by repeat (first | (with_reducible first | exact HB.out | apply below_alloc | apply pw_below_drewN | apply below_drew1) | exact HB.out)) hb); clear HB; have HB := n0_; clear n0_; (try clear hb); (try clear hb2); (try clear hk); (try clear hi)) | ((with_reducible refine gate_callee (f := 19) rfl ?_); refine goesL_ (some 37) rfl rfl Tryd.func19 (by kernel_rfl) rfl #[.int .i64 (wrap64 (a0)), .int .i64 (wrap64 (a1)), .int .i64 (wrap64 (a2))] rfl (by (try simp only [List.map_toArray, List.map_cons, List.map_nil]); first | done | rfl | (simp only [List.length_drop, List.length_take]; rfl)) ?_; (with_reducible refine (Hd.tick_MulDiv.calls (wrap64 (a0)) (wrap64 (a1)) (wrap64 (a2)) t106 t107 _ A10.out).mono ?_); rintro e w16 ⟨rfl, hb⟩; refine ⟨_, rfl, ?_⟩; have n0_ := Aside0.mk (below_step (by repeat (first | (with_reducible first | exact HB.out | apply below_alloc | apply pw_below_drewN | apply below_drew1) | exact HB.out)) hb); clear HB; have HB := n0_; clear n0_; (try clear hb); (try clear hb2); (try clear hk); (try clear hi)))
     go_ret
     exact ⟨by first | rfl | (simp [errW_none, errW_some] <;> rfl) | (simp [*, errW_none, errW_some] <;> rfl), by repeat (first | (with_reducible first | exact HB.out | apply below_alloc | apply pw_below_drewN | apply below_drew1) | exact HB.out)⟩
   ·rw [if_neg c11] at H
    have c11b0 : (t107 == 0) = false := beq_eq_false_iff_ne.mpr c11
    have c11b1 : (t107 != 0) = true := bne_iff_ne.mpr c11
    obtain rfl := Option.some.inj H
    go_enter Tryd.func9, Tryd.ntmps9
    go_wp2_with (first | ((with_reducible refine gate_callee (f := 10) rfl ?_); refine goesL_ (some 14) rfl rfl Tryd.func10 (by kernel_rfl) rfl #[] rfl (by (try simp only [List.map_toArray, List.map_cons, List.map_nil]); first | done | rfl | (simp only [List.length_drop, List.length_take]; rfl)) ?_; (with_reducible refine (Hd.tocsinlaw02_fixed.calls  true _ A4.out ?side1).mono ?_); (case side1 => exact Tabs.below HT.out (by repeat (first | (with_reducible first | exact HB.out | apply below_alloc | apply pw_below_drewN | apply below_drew1) | exact HB.out))); rintro e w17 ⟨rfl, hb⟩; refine ⟨_, rfl, ?_⟩; have n0_ := Aside0.mk (below_step (by repeat (first | (with_reducible first | exact HB.out | apply below_alloc | apply pw_below_drewN | apply below_drew1) | exact HB.out)) hb); clear HB; have HB := n0_; clear n0_; (try clear hb); (try clear hb2); (try clear hk); (try clear hi)) | ((with_reducible refine gate_callee (f := 19) rfl ?_); refine goesL_ (some 37) rfl rfl Tryd.func19 (by kernel_rfl) rfl #[.int .i64 (wrap64 (a0)), .int .i64 (wrap64 (a1)), .int .i64 (wrap64 (a2))] rfl (by (try simp only [List.map_toArray, List.map_cons, List.map_nil]); first | done | rfl | (simp only [List.length_drop, List.length_take]; rfl)) ?_; (with_reducible refine (Hd.tick_MulDiv.calls (wrap64 (a0)) (wrap64 (a1)) (wrap64 (a2)) t106 t107 _ A10.out).mono ?_); rintro e w18 ⟨rfl, hb⟩; refine ⟨_, rfl, ?_⟩; have n0_ := Aside0.mk (below_step (by repeat (first | (with_reducible first | exact HB.out | apply below_alloc | apply pw_below_drewN | apply below_drew1) | exact HB.out)) hb); clear HB; have HB := n0_; clear n0_; (try clear hb); (try clear hb2); (try clear hk); (try clear hi)))
    go_ret
    exact ⟨by first | rfl | (simp [errW_none, errW_some] <;> rfl) | (simp [*, errW_none, errW_some] <;> rfl), by repeat (first | (with_reducible first | exact HB.out | apply below_alloc | apply pw_below_drewN | apply below_drew1) | exact HB.out)⟩
 ·replace c5 := Bool.eq_false_iff.mpr c5
  subst c5
  have H1 : (some false) = some r := by rw [if_neg (show ¬ (false = true) by decide)] at H; exact H
  clear H
  have H := H1
  clear H1
  obtain rfl := Option.some.inj H
  go_enter Tryd.func9, Tryd.ntmps9
  go_wp2_with (first | ((with_reducible refine gate_callee (f := 10) rfl ?_); refine goesL_ (some 14) rfl rfl Tryd.func10 (by kernel_rfl) rfl #[] rfl (by (try simp only [List.map_toArray, List.map_cons, List.map_nil]); first | done | rfl | (simp only [List.length_drop, List.length_take]; rfl)) ?_; (with_reducible refine (Hd.tocsinlaw02_fixed.calls  false _ A4.out ?side1).mono ?_); (case side1 => exact Tabs.below HT.out (by repeat (first | (with_reducible first | exact HB.out | apply below_alloc | apply pw_below_drewN | apply below_drew1) | exact HB.out))); rintro e w19 ⟨rfl, hb⟩; refine ⟨_, rfl, ?_⟩; have n0_ := Aside0.mk (below_step (by repeat (first | (with_reducible first | exact HB.out | apply below_alloc | apply pw_below_drewN | apply below_drew1) | exact HB.out)) hb); clear HB; have HB := n0_; clear n0_; (try clear hb); (try clear hb2); (try clear hk); (try clear hi)))
  go_ret
  exact ⟨by first | rfl | (simp [errW_none, errW_some] <;> rfl) | (simp [*, errW_none, errW_some] <;> rfl), by repeat (first | (with_reducible first | exact HB.out | apply below_alloc | apply pw_below_drewN | apply below_drew1) | exact HB.out)⟩

/-- THE ONE PURE STATEMENT of tocsinlaw02_TickFloors: yours. -/
def tocsinlaw02_TickFloors.Pure : Prop := ∀ (a0 : Int) (a1 : Int) (a2 : Int), (Lit.int .i32 a0).wf = true → (Lit.int .i32 a1).wf = true → (Lit.int .i32 a2).wf = true → tocsinlaw02_TickFloors.f a0 a1 a2 = some true
theorem tocsinlaw02_TickFloors.walk (P : tocsinlaw02_TickFloors.Pure) (a0 : Int) (a1 : Int) (a2 : Int) (w : World) (w0 : (Lit.int .i32 a0).wf = true) (w1 : (Lit.int .i32 a1).wf = true) (w2 : (Lit.int .i32 a2).wf = true) (hT : Tabs w) :
  Calls Tryd.prog 9 #[.int .i32 a0, .int .i32 a1, .int .i32 a2] w fun e w' => e = .returned (.bool true) ∧ Below w.heap.size w w' := by
 have h := P a0 a1 a2 w0 w1 w2
 refine (tocsinlaw02_TickFloors.calls a0 a1 a2 true w h hT).mono ?_
 rintro e w' ⟨rfl, hd⟩
 exact ⟨rfl, hd⟩

/-! ### tick_Half: function 21 -/
def tick_Half.f (a0 : Int) (a1 : Int) : Option (Int) := some (wrap64 ((Go.bits .and .i64 a0 a1) + ((Go.bits .xor .i64 a0 a1) / 2)))
set_option maxHeartbeats 8000000 in
set_option maxRecDepth 100000 in
theorem tick_Half.calls (a0 : Int) (a1 : Int) (r : Int) (w : World) (h : tick_Half.f a0 a1 = some r) :
  Calls Tryd.prog 21 #[.int .i64 a0, .int .i64 a1] w fun e w' => e = .returned (.int .i64 r) ∧ Drawn0 w w' := by
 have H : (some (wrap64 ((Go.bits .and .i64 a0 a1) + ((Go.bits .xor .i64 a0 a1) / 2)))) = some r := h
 clear h
 obtain rfl := Option.some.inj H
 go_enter Tryd.func21, Tryd.ntmps21
 go_wp2
 go_ret
 exact ⟨by first | rfl | (simp; done) | (simp [*]; done), by repeat (first | exact Drawn0.refl _ | apply Drawn0.step)⟩

/-! ### tocsinlaw02_TickBacks: function 7 -/
def tocsinlaw02_TickBacks.j0 : Nat → Int → Int → Option (Bool)
 | 0, _, _ => none
 | k + 1, x0, x1 => (tick_Half.f x0 x1).bind fun t113 => (if t113 < (mn x0 x1) then (some false) else (if t113 > (mx x0 x1) then (some false) else ((tick_Half.f x1 x0).bind fun t114 => (if t113 = t114 then ((Hd.tick_MulDiv.f x0 (mx x1 1) (mx x1 1)).bind fun bt115 => (if bt115.1 = x0 then (some (bt115.2 == 0)) else (some false))) else (some false)))))
def tocsinlaw02_TickBacks.f (k : Nat) (a0 : Int) (a1 : Int) : Option (Bool) := (Hd.tocsinlaw02_fixed.f).bind fun t108 => (if t108 = true then ((Hd.tick_Add.f a0 a1).bind fun bt109 => (if bt109.2 = 0 then ((Hd.tick_Sub.f bt109.1 a1).bind fun bt111 => (if bt111.2 = 0 then (if bt111.1 = a0 then (tocsinlaw02_TickBacks.j0 k a0 a1) else (some false)) else (some false))) else (tocsinlaw02_TickBacks.j0 k a0 a1))) else (some false))
theorem tocsinlaw02_TickBacks.mono_l : ∀ k, (∀ y0 y1, LeO (tocsinlaw02_TickBacks.j0 k y0 y1) (tocsinlaw02_TickBacks.j0 (k + 1) y0 y1))
 | 0 => fun _ _ r h => by simp [tocsinlaw02_TickBacks.j0] at h
 | k + 1 => by
  have ih0 := tocsinlaw02_TickBacks.mono_l k
  ·intro y0 y1
   unfold tocsinlaw02_TickBacks.j0
   repeat' first
   | (with_reducible exact ih0 _ _)
   | (with_reducible exact LeO.refl _)
   | (with_reducible exact LeO.none _)
   | (with_reducible refine LeO.ite ?_ ?_)
   | (with_reducible refine LeO.bind ?_ (fun _ => ?_))
   | exact ih0 _ _
   | exact LeO.none _
   | refine LeO.ite ?_ ?_
   | refine LeO.bind ?_ (fun _ => ?_)
theorem tocsinlaw02_TickBacks.mono : ∀ a0 a1 k, LeO (tocsinlaw02_TickBacks.f k a0 a1) (tocsinlaw02_TickBacks.f (k + 1) a0 a1) := by
 intro a0 a1 k
 have ih0 := tocsinlaw02_TickBacks.mono_l k
 unfold tocsinlaw02_TickBacks.f
 repeat' first
   | (with_reducible exact ih0 _ _)
   | (with_reducible exact LeO.refl _)
   | (with_reducible exact LeO.none _)
   | (with_reducible refine LeO.ite ?_ ?_)
   | (with_reducible refine LeO.bind ?_ (fun _ => ?_))
   | exact ih0 _ _
   | exact LeO.none _
   | refine LeO.ite ?_ ?_
   | refine LeO.bind ?_ (fun _ => ?_)
set_option maxHeartbeats 8000000 in
set_option maxRecDepth 100000 in
theorem tocsinlaw02_TickBacks.calls (k : Nat) (a0 : Int) (a1 : Int) (r : Bool) (w : World) (h : tocsinlaw02_TickBacks.f k a0 a1 = some r) (hT : Tabs w) :
  Calls Tryd.prog 7 #[.int .i64 a0, .int .i64 a1] w fun e w' => e = .returned (.bool r) ∧ Below w.heap.size w w' := by
 have HT := Aside0.mk hT
 clear hT
 have HB := Aside0.mk (Below.refl w.heap.size w)
 have H : ((Hd.tocsinlaw02_fixed.f).bind fun t108 => (if t108 = true then ((Hd.tick_Add.f a0 a1).bind fun bt109 => (if bt109.2 = 0 then ((Hd.tick_Sub.f bt109.1 a1).bind fun bt111 => (if bt111.2 = 0 then (if bt111.1 = a0 then (tocsinlaw02_TickBacks.j0 k a0 a1) else (some false)) else (some false))) else (tocsinlaw02_TickBacks.j0 k a0 a1))) else (some false))) = some r := h
 clear h
 replace H := Option.bind_eq_some_iff.mp H
 obtain ⟨t108, A30, H⟩ := H
 replace H : (if t108 = true then ((Hd.tick_Add.f a0 a1).bind fun bt109 => (if bt109.2 = 0 then ((Hd.tick_Sub.f bt109.1 a1).bind fun bt111 => (if bt111.2 = 0 then (if bt111.1 = a0 then (tocsinlaw02_TickBacks.j0 k a0 a1) else (some false)) else (some false))) else (tocsinlaw02_TickBacks.j0 k a0 a1))) else (some false)) = some r := H
 have A3 := Aside0.mk A30
 clear A30
 by_cases c4 : t108 = true
 ·subst c4
  have H1 : ((Hd.tick_Add.f a0 a1).bind fun bt109 => (if bt109.2 = 0 then ((Hd.tick_Sub.f bt109.1 a1).bind fun bt111 => (if bt111.2 = 0 then (if bt111.1 = a0 then (tocsinlaw02_TickBacks.j0 k a0 a1) else (some false)) else (some false))) else (tocsinlaw02_TickBacks.j0 k a0 a1))) = some r := by rw [if_pos rfl] at H; exact H
  clear H
  have H := H1
  clear H1
  replace H := Option.bind_eq_some_iff.mp H
  obtain ⟨⟨t109, t110⟩, A50, H⟩ := H
  replace H : (if t110 = 0 then ((Hd.tick_Sub.f t109 a1).bind fun bt111 => (if bt111.2 = 0 then (if bt111.1 = a0 then (tocsinlaw02_TickBacks.j0 k a0 a1) else (some false)) else (some false))) else (tocsinlaw02_TickBacks.j0 k a0 a1)) = some r := H
  have A5 := Aside0.mk A50
  clear A50
  have HC6 := Aside0.mk H
  clear H
  go_enter Tryd.func7, Tryd.ntmps7
  go_upto_if 22 with (first | ((with_reducible refine gate_callee (f := 10) rfl ?_); refine goesL_ (some 13) rfl rfl Tryd.func10 (by kernel_rfl) rfl #[] rfl (by (try simp only [List.map_toArray, List.map_cons, List.map_nil]); first | done | rfl | (simp only [List.length_drop, List.length_take]; rfl)) ?_; (with_reducible refine (Hd.tocsinlaw02_fixed.calls  true _ A3.out ?side1).mono ?_); (case side1 => exact Tabs.below HT.out (by repeat (first | (with_reducible first | exact HB.out | apply below_alloc | apply pw_below_drewN | apply below_drew1) | exact HB.out))); rintro e w7 ⟨rfl, hb⟩; refine ⟨_, rfl, ?_⟩; have n0_ := Aside0.mk (below_step (by repeat (first | (with_reducible first | exact HB.out | apply below_alloc | apply pw_below_drewN | apply below_drew1) | exact HB.out)) hb); clear HB; have HB := n0_; clear n0_; (try clear hb); (try clear hb2); (try clear hk); (try clear hi)) | ((with_reducible refine gate_callee (f := 11) rfl ?_); refine goesL_ (some 18) rfl rfl Tryd.func11 (by kernel_rfl) rfl #[.int .i64 a0, .int .i64 a1] rfl (by (try simp only [List.map_toArray, List.map_cons, List.map_nil]); first | done | rfl | (simp only [List.length_drop, List.length_take]; rfl)) ?_; (with_reducible refine (Hd.tick_Add.calls a0 a1 t109 t110 _ A5.out).mono ?_); rintro e w8 ⟨rfl, hb⟩; refine ⟨_, rfl, ?_⟩; have n0_ := Aside0.mk (below_step (by repeat (first | (with_reducible first | exact HB.out | apply below_alloc | apply pw_below_drewN | apply below_drew1) | exact HB.out)) hb); clear HB; have HB := n0_; clear n0_; (try clear hb); (try clear hb2); (try clear hk); (try clear hi)))
  (try simp only [Act.put, List.setIfInBounds_toArray, List.set_cons_zero, List.set_cons_succ])
  go_cut [] (fun wc => ∃ (kq : Nat), Aside0 (tocsinlaw02_TickBacks.j0 kq a0 a1 = some r) ∧ Aside0 (kq ≤ k) ∧ Aside0 (Below w.heap.size w wc))
  case first =>
   have H := HC6.out
   clear HC6
   by_cases c9 : t110 = 0
   ·rw [if_pos c9] at H
    have c9b0 : (t110 == 0) = true := beq_iff_eq.mpr c9
    have c9b1 : (t110 != 0) = false := bne_eq_false_iff_eq.mpr c9
    clear c9
    (first | rw [c9b0] | (simp only [i64_w, i32_w]; rw [c9b0]) | skip)
    replace H := Option.bind_eq_some_iff.mp H
    obtain ⟨⟨t111, t112⟩, A100, H⟩ := H
    replace H : (if t112 = 0 then (if t111 = a0 then (tocsinlaw02_TickBacks.j0 k a0 a1) else (some false)) else (some false)) = some r := H
    have A10 := Aside0.mk A100
    clear A100
    by_cases c11 : t112 = 0
    ·rw [if_pos c11] at H
     have c11b0 : (t112 == 0) = true := beq_iff_eq.mpr c11
     have c11b1 : (t112 != 0) = false := bne_eq_false_iff_eq.mpr c11
     clear c11
     by_cases c12 : t111 = a0
     ·rw [if_pos c12] at H
      have c12b0 : (t111 == a0) = true := beq_iff_eq.mpr c12
      have c12b1 : (t111 != a0) = false := bne_eq_false_iff_eq.mpr c12
      clear c12
      have H' := Aside0.mk H
      clear H
      go_wp2_with (first | ((with_reducible refine gate_callee (f := 12) rfl ?_); refine goesL_ (some 26) rfl rfl Tryd.func12 (by kernel_rfl) rfl #[.int .i64 t109, .int .i64 a1] rfl (by (try simp only [List.map_toArray, List.map_cons, List.map_nil]); first | done | rfl | (simp only [List.length_drop, List.length_take]; rfl)) ?_; (with_reducible refine (Hd.tick_Sub.calls t109 a1 t111 t112 _ A10.out).mono ?_); rintro e w13 ⟨rfl, hb⟩; refine ⟨_, rfl, ?_⟩; have n0_ := Aside0.mk (below_step (by repeat (first | (with_reducible first | exact HB.out | apply below_alloc | apply pw_below_drewN | apply below_drew1) | exact HB.out)) hb); clear HB; have HB := n0_; clear n0_; (try clear hb); (try clear hb2); (try clear hk); (try clear hi)))
      go_meet
      case rel => exact ⟨_, H', ⟨by first | omega | exact Nat.le_refl _⟩, ⟨by repeat (first | (with_reducible first | exact HB.out | apply below_alloc | apply pw_below_drewN | apply below_drew1) | exact HB.out)⟩⟩
     ·rw [if_neg c12] at H
      have c12b0 : (t111 == a0) = false := beq_eq_false_iff_ne.mpr c12
      have c12b1 : (t111 != a0) = true := bne_iff_ne.mpr c12
      obtain rfl := Option.some.inj H
      go_wp2_with (first | ((with_reducible refine gate_callee (f := 12) rfl ?_); refine goesL_ (some 26) rfl rfl Tryd.func12 (by kernel_rfl) rfl #[.int .i64 t109, .int .i64 a1] rfl (by (try simp only [List.map_toArray, List.map_cons, List.map_nil]); first | done | rfl | (simp only [List.length_drop, List.length_take]; rfl)) ?_; (with_reducible refine (Hd.tick_Sub.calls t109 a1 t111 t112 _ A10.out).mono ?_); rintro e w14 ⟨rfl, hb⟩; refine ⟨_, rfl, ?_⟩; have n0_ := Aside0.mk (below_step (by repeat (first | (with_reducible first | exact HB.out | apply below_alloc | apply pw_below_drewN | apply below_drew1) | exact HB.out)) hb); clear HB; have HB := n0_; clear n0_; (try clear hb); (try clear hb2); (try clear hk); (try clear hi)))
      go_ret
      exact ⟨by first | rfl | (simp [errW_none, errW_some] <;> rfl) | (simp [*, errW_none, errW_some] <;> rfl), by repeat (first | (with_reducible first | exact HB.out | apply below_alloc | apply pw_below_drewN | apply below_drew1) | exact HB.out)⟩
    ·rw [if_neg c11] at H
     have c11b0 : (t112 == 0) = false := beq_eq_false_iff_ne.mpr c11
     have c11b1 : (t112 != 0) = true := bne_iff_ne.mpr c11
     obtain rfl := Option.some.inj H
     go_wp2_with (first | ((with_reducible refine gate_callee (f := 12) rfl ?_); refine goesL_ (some 26) rfl rfl Tryd.func12 (by kernel_rfl) rfl #[.int .i64 t109, .int .i64 a1] rfl (by (try simp only [List.map_toArray, List.map_cons, List.map_nil]); first | done | rfl | (simp only [List.length_drop, List.length_take]; rfl)) ?_; (with_reducible refine (Hd.tick_Sub.calls t109 a1 t111 t112 _ A10.out).mono ?_); rintro e w15 ⟨rfl, hb⟩; refine ⟨_, rfl, ?_⟩; have n0_ := Aside0.mk (below_step (by repeat (first | (with_reducible first | exact HB.out | apply below_alloc | apply pw_below_drewN | apply below_drew1) | exact HB.out)) hb); clear HB; have HB := n0_; clear n0_; (try clear hb); (try clear hb2); (try clear hk); (try clear hi)))
     go_ret
     exact ⟨by first | rfl | (simp [errW_none, errW_some] <;> rfl) | (simp [*, errW_none, errW_some] <;> rfl), by repeat (first | (with_reducible first | exact HB.out | apply below_alloc | apply pw_below_drewN | apply below_drew1) | exact HB.out)⟩
   ·rw [if_neg c9] at H
    have c9b0 : (t110 == 0) = false := beq_eq_false_iff_ne.mpr c9
    have c9b1 : (t110 != 0) = true := bne_iff_ne.mpr c9
    (first | rw [c9b0] | (simp only [i64_w, i32_w]; rw [c9b0]) | skip)
    have H' := Aside0.mk H
    clear H
    go_wp2
    go_meet
    case rel => exact ⟨_, H', ⟨by first | omega | exact Nat.le_refl _⟩, ⟨by repeat (first | (with_reducible first | exact HB.out | apply below_alloc | apply pw_below_drewN | apply below_drew1) | exact HB.out)⟩⟩
  case rest =>
   clear HC6
   try clear c1
   try clear p2
   try clear c4
   try clear c7
   try clear c9
   try clear c9b0
   try clear c9b1
   try clear c10
   try clear c11
   try clear c11b0
   try clear c11b1
   try clear c12
   try clear c12b0
   try clear c12b1
   obtain ⟨kq, HA, HJ5, HB⟩ := hcut
   cases kq with
   | zero => exact absurd HA.out (by simp [tocsinlaw02_TickBacks.j0])
   | succ kj5 =>
    have H := HA.out
    clear HA
    simp only [tocsinlaw02_TickBacks.j0] at H
    replace H := Option.bind_eq_some_iff.mp H
    obtain ⟨t113, A160, H⟩ := H
    replace H : (if t113 < (mn a0 a1) then (some false) else (if t113 > (mx a0 a1) then (some false) else ((tick_Half.f a1 a0).bind fun t114 => (if t113 = t114 then ((Hd.tick_MulDiv.f a0 (mx a1 1) (mx a1 1)).bind fun bt115 => (if bt115.1 = a0 then (some (bt115.2 == 0)) else (some false))) else (some false))))) = some r := H
    have A16 := Aside0.mk A160
    clear A160
    obtain ⟨ji17, hji17⟩ : ∃ j_ : Int, (mn a0 a1) = j_ := ⟨_, rfl⟩
    replace H : (if t113 < (ji17) then (some false) else (if t113 > (mx a0 a1) then (some false) else ((tick_Half.f a1 a0).bind fun t114 => (if t113 = t114 then ((Hd.tick_MulDiv.f a0 (mx a1 1) (mx a1 1)).bind fun bt115 => (if bt115.1 = a0 then (some (bt115.2 == 0)) else (some false))) else (some false))))) = some r := by first | (rw [hji17] at H; exact H) | (simp only [hji17] at H ⊢; exact H)
    (try rw [hji17] at A16)
    have hji17_ : (if a1 < a0 then a1 else a0) = ji17 := hji17
    by_cases c18 : t113 < (ji17)
    ·rw [if_pos c18] at H
     have c18b0 : decide (t113 < (ji17)) = true := decide_eq_true c18
     clear c18
     obtain rfl := Option.some.inj H
     go_wp2_with (first | ((with_reducible refine gate_callee (f := 21) rfl ?_); refine goesL_ (some 38) rfl rfl Tryd.func21 (by kernel_rfl) rfl #[.int .i64 a0, .int .i64 a1] rfl (by (try simp only [List.map_toArray, List.map_cons, List.map_nil]); first | done | rfl | (simp only [List.length_drop, List.length_take]; rfl)) ?_; (with_reducible refine (tick_Half.calls a0 a1 t113 _ A16.out).mono ?_); rintro e w' ⟨rfl, ⟨nd, rfl⟩⟩; refine ⟨_, rfl, ?_⟩))
     go_ret
     exact ⟨by first | rfl | (simp [errW_none, errW_some] <;> rfl) | (simp only [← hji17]; first | rfl | (simp [errW_none, errW_some] <;> rfl)) | (simp [*, errW_none, errW_some] <;> rfl), by repeat (first | (with_reducible first | exact HB.out | apply below_alloc | apply pw_below_drewN | apply below_drew1) | exact HB.out)⟩
    ·rw [if_neg c18] at H
     have c18b0 : decide (t113 < (ji17)) = false := decide_eq_false c18
     clear c18
     obtain ⟨ji19, hji19⟩ : ∃ j_ : Int, (mx a0 a1) = j_ := ⟨_, rfl⟩
     replace H : (if t113 > (ji19) then (some false) else ((tick_Half.f a1 a0).bind fun t114 => (if t113 = t114 then ((Hd.tick_MulDiv.f a0 (mx a1 1) (mx a1 1)).bind fun bt115 => (if bt115.1 = a0 then (some (bt115.2 == 0)) else (some false))) else (some false)))) = some r := by first | (rw [hji19] at H; exact H) | (simp only [hji19] at H ⊢; exact H)
     (try rw [hji19] at A16)
     have hji19_ : (if a0 < a1 then a1 else a0) = ji19 := hji19
     by_cases c20 : t113 > (ji19)
     ·rw [if_pos c20] at H
      have c20b0 : decide ((ji19) < t113) = true := decide_eq_true c20
      clear c20
      obtain rfl := Option.some.inj H
      go_wp2_with (first | ((with_reducible refine gate_callee (f := 21) rfl ?_); refine goesL_ (some 38) rfl rfl Tryd.func21 (by kernel_rfl) rfl #[.int .i64 a0, .int .i64 a1] rfl (by (try simp only [List.map_toArray, List.map_cons, List.map_nil]); first | done | rfl | (simp only [List.length_drop, List.length_take]; rfl)) ?_; (with_reducible refine (tick_Half.calls a0 a1 t113 _ A16.out).mono ?_); rintro e w' ⟨rfl, ⟨nd, rfl⟩⟩; refine ⟨_, rfl, ?_⟩))
      go_ret
      exact ⟨by first | rfl | (simp [errW_none, errW_some] <;> rfl) | (simp only [← hji17, ← hji19]; first | rfl | (simp [errW_none, errW_some] <;> rfl)) | (simp [*, errW_none, errW_some] <;> rfl), by repeat (first | (with_reducible first | exact HB.out | apply below_alloc | apply pw_below_drewN | apply below_drew1) | exact HB.out)⟩
     ·rw [if_neg c20] at H
      have c20b0 : decide ((ji19) < t113) = false := decide_eq_false c20
      clear c20
      replace H := Option.bind_eq_some_iff.mp H
      obtain ⟨t114, A210, H⟩ := H
      replace H : (if t113 = t114 then ((Hd.tick_MulDiv.f a0 (mx a1 1) (mx a1 1)).bind fun bt115 => (if bt115.1 = a0 then (some (bt115.2 == 0)) else (some false))) else (some false)) = some r := H
      have A21 := Aside0.mk A210
      clear A210
      by_cases c22 : t113 = t114
      ·rw [if_pos c22] at H
       have c22b0 : (t113 == t114) = true := beq_iff_eq.mpr c22
       have c22b1 : (t113 != t114) = false := bne_eq_false_iff_eq.mpr c22
       clear c22
       obtain ⟨ji23, hji23⟩ : ∃ j_ : Int, (mx a1 1) = j_ := ⟨_, rfl⟩
       replace H : ((Hd.tick_MulDiv.f a0 (ji23) (ji23)).bind fun bt115 => (if bt115.1 = a0 then (some (bt115.2 == 0)) else (some false))) = some r := by first | (rw [hji23] at H; exact H) | (simp only [hji23] at H ⊢; exact H)
       (try rw [hji23] at A16)
       (try rw [hji23] at A21)
       have hji23_ : (if a1 < 1 then 1 else a1) = ji23 := hji23
       replace H := Option.bind_eq_some_iff.mp H
       obtain ⟨⟨t115, t116⟩, A240, H⟩ := H
       replace H : (if t115 = a0 then (some (t116 == 0)) else (some false)) = some r := H
       have A24 := Aside0.mk A240
       clear A240
       by_cases c25 : t115 = a0
       ·rw [if_pos c25] at H
        have c25b0 : (t115 == a0) = true := beq_iff_eq.mpr c25
        have c25b1 : (t115 != a0) = false := bne_eq_false_iff_eq.mpr c25
        clear c25
        obtain rfl := Option.some.inj H
        go_wp2_with (first | ((with_reducible refine gate_callee (f := 21) rfl ?_); refine goesL_ (some 38) rfl rfl Tryd.func21 (by kernel_rfl) rfl #[.int .i64 a0, .int .i64 a1] rfl (by (try simp only [List.map_toArray, List.map_cons, List.map_nil]); first | done | rfl | (simp only [List.length_drop, List.length_take]; rfl)) ?_; (with_reducible refine (tick_Half.calls a0 a1 t113 _ A16.out).mono ?_); rintro e w' ⟨rfl, ⟨nd, rfl⟩⟩; refine ⟨_, rfl, ?_⟩) | (go_at_call 21; (with_reducible refine (tick_Half.calls a1 a0 t114 _ A21.out).mono ?_); rintro e w' ⟨rfl, ⟨nd, rfl⟩⟩) | ((with_reducible refine gate_callee (f := 19) rfl ?_); refine goesL_ (some 64) rfl rfl Tryd.func19 (by kernel_rfl) rfl #[.int .i64 a0, .int .i64 ji23, .int .i64 ji23] rfl (by (try simp only [List.map_toArray, List.map_cons, List.map_nil]); first | done | (simp only [hji23]; rfl) | rfl | (simp only [List.length_drop, List.length_take]; rfl)) ?_; (with_reducible refine (Hd.tick_MulDiv.calls a0 ji23 ji23 t115 t116 _ A24.out).mono ?_); rintro e w26 ⟨rfl, hb⟩; refine ⟨_, rfl, ?_⟩; have n0_ := Aside0.mk (below_step (by repeat (first | (with_reducible first | exact HB.out | apply below_alloc | apply pw_below_drewN | apply below_drew1) | exact HB.out)) hb); clear HB; have HB := n0_; clear n0_; (try clear hb); (try clear hb2); (try clear hk); (try clear hi)))
        go_ret
        exact ⟨by first | rfl | (simp [errW_none, errW_some] <;> rfl) | (simp only [← hji17, ← hji19, ← hji23]; first | rfl | (simp [errW_none, errW_some] <;> rfl)) | (simp [*, errW_none, errW_some] <;> rfl), by repeat (first | (with_reducible first | exact HB.out | apply below_alloc | apply pw_below_drewN | apply below_drew1) | exact HB.out)⟩
       ·rw [if_neg c25] at H
        have c25b0 : (t115 == a0) = false := beq_eq_false_iff_ne.mpr c25
        have c25b1 : (t115 != a0) = true := bne_iff_ne.mpr c25
        obtain rfl := Option.some.inj H
        go_wp2_with (first | ((with_reducible refine gate_callee (f := 21) rfl ?_); refine goesL_ (some 38) rfl rfl Tryd.func21 (by kernel_rfl) rfl #[.int .i64 a0, .int .i64 a1] rfl (by (try simp only [List.map_toArray, List.map_cons, List.map_nil]); first | done | rfl | (simp only [List.length_drop, List.length_take]; rfl)) ?_; (with_reducible refine (tick_Half.calls a0 a1 t113 _ A16.out).mono ?_); rintro e w' ⟨rfl, ⟨nd, rfl⟩⟩; refine ⟨_, rfl, ?_⟩) | (go_at_call 21; (with_reducible refine (tick_Half.calls a1 a0 t114 _ A21.out).mono ?_); rintro e w' ⟨rfl, ⟨nd, rfl⟩⟩) | ((with_reducible refine gate_callee (f := 19) rfl ?_); refine goesL_ (some 64) rfl rfl Tryd.func19 (by kernel_rfl) rfl #[.int .i64 a0, .int .i64 ji23, .int .i64 ji23] rfl (by (try simp only [List.map_toArray, List.map_cons, List.map_nil]); first | done | (simp only [hji23]; rfl) | rfl | (simp only [List.length_drop, List.length_take]; rfl)) ?_; (with_reducible refine (Hd.tick_MulDiv.calls a0 ji23 ji23 t115 t116 _ A24.out).mono ?_); rintro e w27 ⟨rfl, hb⟩; refine ⟨_, rfl, ?_⟩; have n0_ := Aside0.mk (below_step (by repeat (first | (with_reducible first | exact HB.out | apply below_alloc | apply pw_below_drewN | apply below_drew1) | exact HB.out)) hb); clear HB; have HB := n0_; clear n0_; (try clear hb); (try clear hb2); (try clear hk); (try clear hi)))
        go_ret
        exact ⟨by first | rfl | (simp [errW_none, errW_some] <;> rfl) | (simp only [← hji17, ← hji19, ← hji23]; first | rfl | (simp [errW_none, errW_some] <;> rfl)) | (simp [*, errW_none, errW_some] <;> rfl), by repeat (first | (with_reducible first | exact HB.out | apply below_alloc | apply pw_below_drewN | apply below_drew1) | exact HB.out)⟩
      ·rw [if_neg c22] at H
       have c22b0 : (t113 == t114) = false := beq_eq_false_iff_ne.mpr c22
       have c22b1 : (t113 != t114) = true := bne_iff_ne.mpr c22
       obtain rfl := Option.some.inj H
       go_wp2_with (first | ((with_reducible refine gate_callee (f := 21) rfl ?_); refine goesL_ (some 38) rfl rfl Tryd.func21 (by kernel_rfl) rfl #[.int .i64 a0, .int .i64 a1] rfl (by (try simp only [List.map_toArray, List.map_cons, List.map_nil]); first | done | rfl | (simp only [List.length_drop, List.length_take]; rfl)) ?_; (with_reducible refine (tick_Half.calls a0 a1 t113 _ A16.out).mono ?_); rintro e w' ⟨rfl, ⟨nd, rfl⟩⟩; refine ⟨_, rfl, ?_⟩) | (go_at_call 21; (with_reducible refine (tick_Half.calls a1 a0 t114 _ A21.out).mono ?_); rintro e w' ⟨rfl, ⟨nd, rfl⟩⟩))
       go_ret
       exact ⟨by first | rfl | (simp [errW_none, errW_some] <;> rfl) | (simp only [← hji17, ← hji19]; first | rfl | (simp [errW_none, errW_some] <;> rfl)) | (simp [*, errW_none, errW_some] <;> rfl), by repeat (first | (with_reducible first | exact HB.out | apply below_alloc | apply pw_below_drewN | apply below_drew1) | exact HB.out)⟩
 ·replace c4 := Bool.eq_false_iff.mpr c4
  subst c4
  have H1 : (some false) = some r := by rw [if_neg (show ¬ (false = true) by decide)] at H; exact H
  clear H
  have H := H1
  clear H1
  obtain rfl := Option.some.inj H
  go_enter Tryd.func7, Tryd.ntmps7
  go_wp2_with (first | ((with_reducible refine gate_callee (f := 10) rfl ?_); refine goesL_ (some 13) rfl rfl Tryd.func10 (by kernel_rfl) rfl #[] rfl (by (try simp only [List.map_toArray, List.map_cons, List.map_nil]); first | done | rfl | (simp only [List.length_drop, List.length_take]; rfl)) ?_; (with_reducible refine (Hd.tocsinlaw02_fixed.calls  false _ A3.out ?side1).mono ?_); (case side1 => exact Tabs.below HT.out (by repeat (first | (with_reducible first | exact HB.out | apply below_alloc | apply pw_below_drewN | apply below_drew1) | exact HB.out))); rintro e w28 ⟨rfl, hb⟩; refine ⟨_, rfl, ?_⟩; have n0_ := Aside0.mk (below_step (by repeat (first | (with_reducible first | exact HB.out | apply below_alloc | apply pw_below_drewN | apply below_drew1) | exact HB.out)) hb); clear HB; have HB := n0_; clear n0_; (try clear hb); (try clear hb2); (try clear hk); (try clear hi)))
  go_ret
  exact ⟨by first | rfl | (simp [errW_none, errW_some] <;> rfl) | (simp [*, errW_none, errW_some] <;> rfl), by repeat (first | (with_reducible first | exact HB.out | apply below_alloc | apply pw_below_drewN | apply below_drew1) | exact HB.out)⟩

/-- THE ONE PURE STATEMENT of tocsinlaw02_TickBacks: yours. -/
def tocsinlaw02_TickBacks.Pure : Prop := ∀ (a0 : Int) (a1 : Int), (Lit.int .i64 a0).wf = true → (Lit.int .i64 a1).wf = true → ∃ k, tocsinlaw02_TickBacks.f k a0 a1 = some true
theorem tocsinlaw02_TickBacks.walk (P : tocsinlaw02_TickBacks.Pure) (a0 : Int) (a1 : Int) (w : World) (w0 : (Lit.int .i64 a0).wf = true) (w1 : (Lit.int .i64 a1).wf = true) (hT : Tabs w) :
  Calls Tryd.prog 7 #[.int .i64 a0, .int .i64 a1] w fun e w' => e = .returned (.bool true) ∧ Below w.heap.size w w' := by
 obtain ⟨k, h⟩ := P a0 a1 w0 w1
 refine (tocsinlaw02_TickBacks.calls k a0 a1 true w h hT).mono ?_
 rintro e w' ⟨rfl, hd⟩
 exact ⟨rfl, hd⟩

end Go.Proofs.YtccicjiadahmnaaDoor.T
