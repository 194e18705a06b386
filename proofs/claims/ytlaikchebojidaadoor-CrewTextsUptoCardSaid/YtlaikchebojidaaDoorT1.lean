/- Contracts of functions that the statements reach, written by a program of this claim's own; no condition. -/
import Derived.Test.YtlaikchebojidaaDoorT0
import Derived.Test.YtlaikchebojidaaDoorP1
import Derived.Test.YtlaikchebojidaaDoorQ1
import Derived.Test.YtlaikchebojidaaDoorTabs
namespace Go.Proofs.YtlaikchebojidaaDoor.T
open Go.RowKit Go.Proofs.YtlaikchebojidaaDoorW.PrintWords Go.Proofs.YtlaikchebojidaaDoorW.PrintLast Go.Proofs.YtlaikchebojidaaDoorW.PrintMore
attribute [local go_sem] max2_int min2_int max_two min_two max_three min_three max_four min_four   -- for this text's walks alone
set_option linter.unusedVariables false
set_option linter.unusedSimpArgs false

/-! ### tocsinlaw07_fixed: function 9 -/
def tocsinlaw07_fixed.f (k : Nat)  : Option (Bool) := (Q.crew_Parse.f k (⟨#[50, 44, 48]⟩ : ByteArray)).bind fun bt101 => ((Q.crew_Parse.f k (⟨#[45]⟩ : ByteArray)).bind fun bt103 => ((P.crew_Of.f k (([0, 2, 9, 2] : List Int))).bind fun t108 => (if t108 = 5 then ((P.crew_Members.f k 5).bind fun t109 => (if (t109.length : Int) = 2 then ((P.crew_First.f 0).bind fun t112 => (if t112 = (-1) then ((P.crew_First.f 6).bind fun t113 => (if t113 = 1 then ((P.crew_Print.f k 5).bind fun t114 => (if t114.toList = ([48, 44, 50] : List UInt8) then (if bt101.2 = 2 then (if bt103.1 = 0 then (if bt103.2 = 0 then ((P.crew_Common.f k (([5, 4, 6] : List Int))).bind fun t118 => (if t118 = 4 then ((P.crew_Has.f 255 7).bind fun t119 => (if t119 = true then (none) else ((P.crew_Has.f 4 2).bind fun t120 => (if t120 = true then ((P.crew_Count.f 7).bind fun t121 => (if t121 = 3 then ((P.crew_Within.f 4 5).bind fun t122 => (some t122)) else (none))) else (none))))) else (none))) else (none)) else (none)) else (none)) else (none))) else (none))) else (none))) else (none))) else (none))))
theorem tocsinlaw07_fixed.mono : ∀ k, LeO (tocsinlaw07_fixed.f k ) (tocsinlaw07_fixed.f (k + 1) ) := by
  intro  k
  unfold tocsinlaw07_fixed.f
  repeat' first
      | (with_reducible exact P.crew_Common.mono _ _)
      | (with_reducible exact P.crew_Members.mono _ _)
      | (with_reducible exact P.crew_Of.mono _ _)
      | (with_reducible exact P.crew_Print.mono _ _)
      | (with_reducible exact Q.crew_Parse.mono _ _)
      | (with_reducible exact LeO.refl _)
      | (with_reducible exact LeO.none _)
      | (with_reducible refine LeO.ite ?_ ?_)
      | (with_reducible refine LeO.bind ?_ (fun _ => ?_))
      | exact P.crew_Common.mono _ _
      | exact P.crew_Members.mono _ _
      | exact P.crew_Of.mono _ _
      | exact P.crew_Print.mono _ _
      | exact Q.crew_Parse.mono _ _
      | exact LeO.none _
      | refine LeO.ite ?_ ?_
      | refine LeO.bind ?_ (fun _ => ?_)
set_option maxHeartbeats 8000000 in
set_option maxRecDepth 100000 in
theorem tocsinlaw07_fixed.calls (k : Nat)  (r : Bool) (w : World) (h : tocsinlaw07_fixed.f k  = some r) (hT : Tabs w) :
    Calls Tryd.prog 9 #[] w fun e w' => e = .returned (.bool r) ∧ Below w.heap.size w w' := by
  have HT := Aside0.mk hT
  clear hT
  have HB := Aside0.mk (Below.refl w.heap.size w)
  have H : ((Q.crew_Parse.f k (⟨#[50, 44, 48]⟩ : ByteArray)).bind fun bt101 => ((Q.crew_Parse.f k (⟨#[45]⟩ : ByteArray)).bind fun bt103 => ((P.crew_Of.f k (([0, 2, 9, 2] : List Int))).bind fun t108 => (if t108 = 5 then ((P.crew_Members.f k 5).bind fun t109 => (if (t109.length : Int) = 2 then ((P.crew_First.f 0).bind fun t112 => (if t112 = (-1) then ((P.crew_First.f 6).bind fun t113 => (if t113 = 1 then ((P.crew_Print.f k 5).bind fun t114 => (if t114.toList = ([48, 44, 50] : List UInt8) then (if bt101.2 = 2 then (if bt103.1 = 0 then (if bt103.2 = 0 then ((P.crew_Common.f k (([5, 4, 6] : List Int))).bind fun t118 => (if t118 = 4 then ((P.crew_Has.f 255 7).bind fun t119 => (if t119 = true then (none) else ((P.crew_Has.f 4 2).bind fun t120 => (if t120 = true then ((P.crew_Count.f 7).bind fun t121 => (if t121 = 3 then ((P.crew_Within.f 4 5).bind fun t122 => (some t122)) else (none))) else (none))))) else (none))) else (none)) else (none)) else (none)) else (none))) else (none))) else (none))) else (none))) else (none))))) = some r := h
  clear h
  replace H := Option.bind_eq_some_iff.mp H
  obtain ⟨⟨t101, t102⟩, A10, H⟩ := H
  replace H : ((Q.crew_Parse.f k (⟨#[45]⟩ : ByteArray)).bind fun bt103 => ((P.crew_Of.f k (([0, 2, 9, 2] : List Int))).bind fun t108 => (if t108 = 5 then ((P.crew_Members.f k 5).bind fun t109 => (if (t109.length : Int) = 2 then ((P.crew_First.f 0).bind fun t112 => (if t112 = (-1) then ((P.crew_First.f 6).bind fun t113 => (if t113 = 1 then ((P.crew_Print.f k 5).bind fun t114 => (if t114.toList = ([48, 44, 50] : List UInt8) then (if t102 = 2 then (if bt103.1 = 0 then (if bt103.2 = 0 then ((P.crew_Common.f k (([5, 4, 6] : List Int))).bind fun t118 => (if t118 = 4 then ((P.crew_Has.f 255 7).bind fun t119 => (if t119 = true then (none) else ((P.crew_Has.f 4 2).bind fun t120 => (if t120 = true then ((P.crew_Count.f 7).bind fun t121 => (if t121 = 3 then ((P.crew_Within.f 4 5).bind fun t122 => (some t122)) else (none))) else (none))))) else (none))) else (none)) else (none)) else (none)) else (none))) else (none))) else (none))) else (none))) else (none)))) = some r := H
  have A1 := Aside0.mk A10
  clear A10
  replace H := Option.bind_eq_some_iff.mp H
  obtain ⟨⟨t103, t104⟩, A20, H⟩ := H
  replace H : ((P.crew_Of.f k (([0, 2, 9, 2] : List Int))).bind fun t108 => (if t108 = 5 then ((P.crew_Members.f k 5).bind fun t109 => (if (t109.length : Int) = 2 then ((P.crew_First.f 0).bind fun t112 => (if t112 = (-1) then ((P.crew_First.f 6).bind fun t113 => (if t113 = 1 then ((P.crew_Print.f k 5).bind fun t114 => (if t114.toList = ([48, 44, 50] : List UInt8) then (if t102 = 2 then (if t103 = 0 then (if t104 = 0 then ((P.crew_Common.f k (([5, 4, 6] : List Int))).bind fun t118 => (if t118 = 4 then ((P.crew_Has.f 255 7).bind fun t119 => (if t119 = true then (none) else ((P.crew_Has.f 4 2).bind fun t120 => (if t120 = true then ((P.crew_Count.f 7).bind fun t121 => (if t121 = 3 then ((P.crew_Within.f 4 5).bind fun t122 => (some t122)) else (none))) else (none))))) else (none))) else (none)) else (none)) else (none)) else (none))) else (none))) else (none))) else (none))) else (none))) = some r := H
  have A2 := Aside0.mk A20
  clear A20
  obtain ⟨y105, hy105⟩ : ∃ y_ : List Int, y_ = (([0, 2, 9, 2] : List Int)) := ⟨_, rfl⟩
  replace H : ((P.crew_Of.f k y105).bind fun t108 => (if t108 = 5 then ((P.crew_Members.f k 5).bind fun t109 => (if (t109.length : Int) = 2 then ((P.crew_First.f 0).bind fun t112 => (if t112 = (-1) then ((P.crew_First.f 6).bind fun t113 => (if t113 = 1 then ((P.crew_Print.f k 5).bind fun t114 => (if t114.toList = ([48, 44, 50] : List UInt8) then (if t102 = 2 then (if t103 = 0 then (if t104 = 0 then ((P.crew_Common.f k (([5, 4, 6] : List Int))).bind fun t118 => (if t118 = 4 then ((P.crew_Has.f 255 7).bind fun t119 => (if t119 = true then (none) else ((P.crew_Has.f 4 2).bind fun t120 => (if t120 = true then ((P.crew_Count.f 7).bind fun t121 => (if t121 = 3 then ((P.crew_Within.f 4 5).bind fun t122 => (some t122)) else (none))) else (none))))) else (none))) else (none)) else (none)) else (none)) else (none))) else (none))) else (none))) else (none))) else (none))) = some r := by first | (rw [hy105]; with_reducible exact H) | (have H2_ := (Option.bind_some _ _).symm.trans H; rw [hy105]; with_reducible exact H2_) | (have H2_ := (Option.bind_some _ _).symm.trans H; with_reducible exact H2_) | with_reducible exact H | (rw [hy105]; exact H) | exact H
  have Ny105 := Aside0.mk hy105
  clear hy105
  replace H := Option.bind_eq_some_iff.mp H
  obtain ⟨t108, A30, H⟩ := H
  replace H : (if t108 = 5 then ((P.crew_Members.f k 5).bind fun t109 => (if (t109.length : Int) = 2 then ((P.crew_First.f 0).bind fun t112 => (if t112 = (-1) then ((P.crew_First.f 6).bind fun t113 => (if t113 = 1 then ((P.crew_Print.f k 5).bind fun t114 => (if t114.toList = ([48, 44, 50] : List UInt8) then (if t102 = 2 then (if t103 = 0 then (if t104 = 0 then ((P.crew_Common.f k (([5, 4, 6] : List Int))).bind fun t118 => (if t118 = 4 then ((P.crew_Has.f 255 7).bind fun t119 => (if t119 = true then (none) else ((P.crew_Has.f 4 2).bind fun t120 => (if t120 = true then ((P.crew_Count.f 7).bind fun t121 => (if t121 = 3 then ((P.crew_Within.f 4 5).bind fun t122 => (some t122)) else (none))) else (none))))) else (none))) else (none)) else (none)) else (none)) else (none))) else (none))) else (none))) else (none))) else (none)) = some r := H
  have A3 := Aside0.mk A30
  clear A30
  by_cases c4 : t108 = 5
  · rw [if_pos c4] at H
    have c4b0 : (t108 == 5) = true := beq_iff_eq.mpr c4
    have c4b1 : (t108 != 5) = false := bne_eq_false_iff_eq.mpr c4
    clear c4
    replace H := Option.bind_eq_some_iff.mp H
    obtain ⟨t109, A50, H⟩ := H
    replace H : (if (t109.length : Int) = 2 then ((P.crew_First.f 0).bind fun t112 => (if t112 = (-1) then ((P.crew_First.f 6).bind fun t113 => (if t113 = 1 then ((P.crew_Print.f k 5).bind fun t114 => (if t114.toList = ([48, 44, 50] : List UInt8) then (if t102 = 2 then (if t103 = 0 then (if t104 = 0 then ((P.crew_Common.f k (([5, 4, 6] : List Int))).bind fun t118 => (if t118 = 4 then ((P.crew_Has.f 255 7).bind fun t119 => (if t119 = true then (none) else ((P.crew_Has.f 4 2).bind fun t120 => (if t120 = true then ((P.crew_Count.f 7).bind fun t121 => (if t121 = 3 then ((P.crew_Within.f 4 5).bind fun t122 => (some t122)) else (none))) else (none))))) else (none))) else (none)) else (none)) else (none)) else (none))) else (none))) else (none))) else (none)) = some r := H
    have A5 := Aside0.mk A50
    clear A50
    by_cases c6 : (t109.length : Int) = 2
    · rw [if_pos c6] at H
      have c6b0 : ((t109.length : Int) == 2) = true := beq_iff_eq.mpr c6
      have c6b1 : ((t109.length : Int) != 2) = false := bne_eq_false_iff_eq.mpr c6
      clear c6
      replace H := Option.bind_eq_some_iff.mp H
      obtain ⟨t112, A70, H⟩ := H
      replace H : (if t112 = (-1) then ((P.crew_First.f 6).bind fun t113 => (if t113 = 1 then ((P.crew_Print.f k 5).bind fun t114 => (if t114.toList = ([48, 44, 50] : List UInt8) then (if t102 = 2 then (if t103 = 0 then (if t104 = 0 then ((P.crew_Common.f k (([5, 4, 6] : List Int))).bind fun t118 => (if t118 = 4 then ((P.crew_Has.f 255 7).bind fun t119 => (if t119 = true then (none) else ((P.crew_Has.f 4 2).bind fun t120 => (if t120 = true then ((P.crew_Count.f 7).bind fun t121 => (if t121 = 3 then ((P.crew_Within.f 4 5).bind fun t122 => (some t122)) else (none))) else (none))))) else (none))) else (none)) else (none)) else (none)) else (none))) else (none))) else (none)) = some r := H
      have A7 := Aside0.mk A70
      clear A70
      by_cases c8 : t112 = (-1)
      · rw [if_pos c8] at H
        have c8b0 : (t112 == (-1)) = true := beq_iff_eq.mpr c8
        have c8b1 : (t112 != (-1)) = false := bne_eq_false_iff_eq.mpr c8
        clear c8
        replace H := Option.bind_eq_some_iff.mp H
        obtain ⟨t113, A90, H⟩ := H
        replace H : (if t113 = 1 then ((P.crew_Print.f k 5).bind fun t114 => (if t114.toList = ([48, 44, 50] : List UInt8) then (if t102 = 2 then (if t103 = 0 then (if t104 = 0 then ((P.crew_Common.f k (([5, 4, 6] : List Int))).bind fun t118 => (if t118 = 4 then ((P.crew_Has.f 255 7).bind fun t119 => (if t119 = true then (none) else ((P.crew_Has.f 4 2).bind fun t120 => (if t120 = true then ((P.crew_Count.f 7).bind fun t121 => (if t121 = 3 then ((P.crew_Within.f 4 5).bind fun t122 => (some t122)) else (none))) else (none))))) else (none))) else (none)) else (none)) else (none)) else (none))) else (none)) = some r := H
        have A9 := Aside0.mk A90
        clear A90
        by_cases c10 : t113 = 1
        · rw [if_pos c10] at H
          have c10b0 : (t113 == 1) = true := beq_iff_eq.mpr c10
          have c10b1 : (t113 != 1) = false := bne_eq_false_iff_eq.mpr c10
          clear c10
          replace H := Option.bind_eq_some_iff.mp H
          obtain ⟨t114, A110, H⟩ := H
          replace H : (if t114.toList = ([48, 44, 50] : List UInt8) then (if t102 = 2 then (if t103 = 0 then (if t104 = 0 then ((P.crew_Common.f k (([5, 4, 6] : List Int))).bind fun t118 => (if t118 = 4 then ((P.crew_Has.f 255 7).bind fun t119 => (if t119 = true then (none) else ((P.crew_Has.f 4 2).bind fun t120 => (if t120 = true then ((P.crew_Count.f 7).bind fun t121 => (if t121 = 3 then ((P.crew_Within.f 4 5).bind fun t122 => (some t122)) else (none))) else (none))))) else (none))) else (none)) else (none)) else (none)) else (none)) = some r := H
          have A11 := Aside0.mk A110
          clear A110
          by_cases c12 : t114.toList = ([48, 44, 50] : List UInt8)
          · rw [if_pos c12] at H
            have c12b0 : (t114.toList == ([48, 44, 50] : List UInt8)) = true := beq_iff_eq.mpr c12
            have c12b1 : (t114.toList != ([48, 44, 50] : List UInt8)) = false := bne_eq_false_iff_eq.mpr c12
            clear c12
            by_cases c13 : t102 = 2
            · rw [if_pos c13] at H
              have c13b0 : (t102 == 2) = true := beq_iff_eq.mpr c13
              have c13b1 : (t102 != 2) = false := bne_eq_false_iff_eq.mpr c13
              clear c13
              by_cases c14 : t103 = 0
              · rw [if_pos c14] at H
                have c14b0 : (t103 == 0) = true := beq_iff_eq.mpr c14
                have c14b1 : (t103 != 0) = false := bne_eq_false_iff_eq.mpr c14
                clear c14
                by_cases c15 : t104 = 0
                · rw [if_pos c15] at H
                  have c15b0 : (t104 == 0) = true := beq_iff_eq.mpr c15
                  have c15b1 : (t104 != 0) = false := bne_eq_false_iff_eq.mpr c15
                  clear c15
                  obtain ⟨y115, hy115⟩ : ∃ y_ : List Int, y_ = (([5, 4, 6] : List Int)) := ⟨_, rfl⟩
                  replace H : ((P.crew_Common.f k y115).bind fun t118 => (if t118 = 4 then ((P.crew_Has.f 255 7).bind fun t119 => (if t119 = true then (none) else ((P.crew_Has.f 4 2).bind fun t120 => (if t120 = true then ((P.crew_Count.f 7).bind fun t121 => (if t121 = 3 then ((P.crew_Within.f 4 5).bind fun t122 => (some t122)) else (none))) else (none))))) else (none))) = some r := by first | (rw [hy115]; with_reducible exact H) | (have H2_ := (Option.bind_some _ _).symm.trans H; rw [hy115]; with_reducible exact H2_) | (have H2_ := (Option.bind_some _ _).symm.trans H; with_reducible exact H2_) | with_reducible exact H | (rw [hy115]; exact H) | exact H
                  have Ny115 := Aside0.mk hy115
                  clear hy115
                  replace H := Option.bind_eq_some_iff.mp H
                  obtain ⟨t118, A160, H⟩ := H
                  replace H : (if t118 = 4 then ((P.crew_Has.f 255 7).bind fun t119 => (if t119 = true then (none) else ((P.crew_Has.f 4 2).bind fun t120 => (if t120 = true then ((P.crew_Count.f 7).bind fun t121 => (if t121 = 3 then ((P.crew_Within.f 4 5).bind fun t122 => (some t122)) else (none))) else (none))))) else (none)) = some r := H
                  have A16 := Aside0.mk A160
                  clear A160
                  by_cases c17 : t118 = 4
                  · rw [if_pos c17] at H
                    have c17b0 : (t118 == 4) = true := beq_iff_eq.mpr c17
                    have c17b1 : (t118 != 4) = false := bne_eq_false_iff_eq.mpr c17
                    clear c17
                    replace H := Option.bind_eq_some_iff.mp H
                    obtain ⟨t119, A180, H⟩ := H
                    replace H : (if t119 = true then (none) else ((P.crew_Has.f 4 2).bind fun t120 => (if t120 = true then ((P.crew_Count.f 7).bind fun t121 => (if t121 = 3 then ((P.crew_Within.f 4 5).bind fun t122 => (some t122)) else (none))) else (none)))) = some r := H
                    have A18 := Aside0.mk A180
                    clear A180
                    by_cases c19 : t119 = true
                    · subst c19
                      have H1 : (none) = some r := by rw [if_pos rfl] at H; exact H
                      clear H
                      have H := H1
                      clear H1
                      exact absurd H (by simp)
                    · replace c19 := Bool.eq_false_iff.mpr c19
                      subst c19
                      have H1 : ((P.crew_Has.f 4 2).bind fun t120 => (if t120 = true then ((P.crew_Count.f 7).bind fun t121 => (if t121 = 3 then ((P.crew_Within.f 4 5).bind fun t122 => (some t122)) else (none))) else (none))) = some r := by rw [if_neg (show ¬ (false = true) by decide)] at H; exact H
                      clear H
                      have H := H1
                      clear H1
                      replace H := Option.bind_eq_some_iff.mp H
                      obtain ⟨t120, A200, H⟩ := H
                      replace H : (if t120 = true then ((P.crew_Count.f 7).bind fun t121 => (if t121 = 3 then ((P.crew_Within.f 4 5).bind fun t122 => (some t122)) else (none))) else (none)) = some r := H
                      have A20 := Aside0.mk A200
                      clear A200
                      by_cases c21 : t120 = true
                      · subst c21
                        have H1 : ((P.crew_Count.f 7).bind fun t121 => (if t121 = 3 then ((P.crew_Within.f 4 5).bind fun t122 => (some t122)) else (none))) = some r := by rw [if_pos rfl] at H; exact H
                        clear H
                        have H := H1
                        clear H1
                        replace H := Option.bind_eq_some_iff.mp H
                        obtain ⟨t121, A220, H⟩ := H
                        replace H : (if t121 = 3 then ((P.crew_Within.f 4 5).bind fun t122 => (some t122)) else (none)) = some r := H
                        have A22 := Aside0.mk A220
                        clear A220
                        by_cases c23 : t121 = 3
                        · rw [if_pos c23] at H
                          have c23b0 : (t121 == 3) = true := beq_iff_eq.mpr c23
                          have c23b1 : (t121 != 3) = false := bne_eq_false_iff_eq.mpr c23
                          clear c23
                          replace H := Option.bind_eq_some_iff.mp H
                          obtain ⟨t122, A240, H⟩ := H
                          replace H : (some t122) = some r := H
                          have A24 := Aside0.mk A240
                          clear A240
                          obtain rfl := Option.some.inj H
                          go_enter Tryd.func9, Tryd.ntmps9
                          go_wp2_with (first | ((with_reducible refine gate_callee (f := 22) rfl ?_); refine goesL_ (some 6) rfl rfl Tryd.func22 (by kernel_rfl) rfl #[.string (⟨#[50, 44, 48]⟩ : ByteArray)] rfl (by (try simp only [List.map_toArray, List.map_cons, List.map_nil]); first | done | rfl | (simp only [List.length_drop, List.length_take]; rfl)) ?_; (with_reducible refine (Q.crew_Parse.calls k (⟨#[50, 44, 48]⟩ : ByteArray) t101 t102 _ A1.out ?side1).mono ?_); (case side1 => exact Tabs.below HT.out (by repeat (first | (with_reducible first | exact HB.out | apply below_alloc | apply pw_below_drewN | apply below_drew1) | exact HB.out))); rintro e w25 ⟨rfl, hb⟩; refine ⟨_, rfl, ?_⟩; have n0_ := Aside0.mk (below_step (by repeat (first | (with_reducible first | exact HB.out | apply below_alloc | apply pw_below_drewN | apply below_drew1) | exact HB.out)) hb); clear HB; have HB := n0_; clear n0_; (try clear hb); (try clear hb2); (try clear hk); (try clear hi)) | ((with_reducible refine gate_callee (f := 22) rfl ?_); refine goesL_ (some 10) rfl rfl Tryd.func22 (by kernel_rfl) rfl #[.string (⟨#[45]⟩ : ByteArray)] rfl (by (try simp only [List.map_toArray, List.map_cons, List.map_nil]); first | done | rfl | (simp only [List.length_drop, List.length_take]; rfl)) ?_; (with_reducible refine (Q.crew_Parse.calls k (⟨#[45]⟩ : ByteArray) t103 t104 _ A2.out ?side1).mono ?_); (case side1 => exact Tabs.below HT.out (by repeat (first | (with_reducible first | exact HB.out | apply below_alloc | apply pw_below_drewN | apply below_drew1) | exact HB.out))); rintro e w26 ⟨rfl, hb⟩; refine ⟨_, rfl, ?_⟩; have n0_ := Aside0.mk (below_step (by repeat (first | (with_reducible first | exact HB.out | apply below_alloc | apply pw_below_drewN | apply below_drew1) | exact HB.out)) hb); clear HB; have HB := n0_; clear n0_; (try clear hb); (try clear hb2); (try clear hk); (try clear hi)) | ((with_reducible refine gate_dst (N := 13) rfl ?_); (try (refine gate_guard (by rfl) ?_; dsimp only)); refine Kd.R_lit (Kd.int .i64) _ 3 ?hg (N := 13) ?hd (xs := ([0, 2, 9, 2] : List Int)) (inner := [.int .i64 0, .int .i64 2, .int .i64 9, .int .i64 2]) (ok := fun _ => True) (okp := fun _ => True) ?hr ?hp (fun _ hk => hk) trivial (Below.refl _ _) (Nat.le_refl _) (by simp) ?_; (case hd => rfl); (case hg => rfl); (case hr => first | (go_simp; done) | (go_simp; rfl)); (case hp => exact (Reps.one (show Kd.M (Kd.int .i64) _ _ _ 0 [.int .i64 0] from rfl) (Reps.one (show Kd.M (Kd.int .i64) _ _ _ 2 [.int .i64 2] from rfl) (Reps.one (show Kd.M (Kd.int .i64) _ _ _ 9 [.int .i64 9] from rfl) (Reps.one (show Kd.M (Kd.int .i64) _ _ _ 2 [.int .i64 2] from rfl) (Reps.none _ _)))))); intro v106 w27 ho28 hb hg_ hnew_; clear hg_ hnew_; (first | rw [← Ny105.out] at ho28 | (simp only [Int.reduceToNat] at ho28; rw [← Ny105.out] at ho28)); have n0_ := Aside0.mk (Kd.R_lower ho28 (below_size (by repeat (first | (with_reducible first | exact HB.out | apply below_alloc | apply pw_below_drewN | apply below_drew1) | exact HB.out)))); have n1_ := Aside0.mk (below_step (by repeat (first | (with_reducible first | exact HB.out | apply below_alloc | apply pw_below_drewN | apply below_drew1) | exact HB.out)) hb); clear HB; have HO107 := n0_; have HB := n1_; clear n0_ n1_; clear hb ho28; obtain ⟨Ao29, co29, eo29⟩ := Kd.R_slice HO107.out; subst eo29) | ((with_reducible refine gate_callee (f := 17) rfl ?_); refine goesL_ (some 14) rfl rfl Tryd.func17 (by kernel_rfl) rfl #[.slice Ao29 y105.length co29] rfl (by (try simp only [List.map_toArray, List.map_cons, List.map_nil]); first | done | rfl | (simp only [List.length_drop, List.length_take]; rfl)) ?_; (with_reducible refine (P.crew_Of.calls k _ _ y105 t108 _ ?side1 ?side2 A3.out).mono ?_); (case side1 => repeat (first | exact (Kd.R_reads' HO107.out).2.2 | (with_reducible refine Kd.C_alloc ?_ _) | (with_reducible refine Kd.C_drewN ?_ _) | (with_reducible refine Kd.C_drew ?_))); (case side2 => exact (Kd.R_reads' HO107.out).2.1); rintro e w' ⟨rfl, ⟨nd, rfl⟩⟩; refine ⟨_, rfl, ?_⟩) | (go_at_call 12; (with_reducible refine (P.crew_Members.calls k 5 t109 _ A5.out ?side1).mono ?_); (case side1 => exact Tabs.below HT.out (by repeat (first | (with_reducible first | exact HB.out | apply below_alloc | apply pw_below_drewN | apply below_drew1) | exact HB.out))); rintro e w30 ⟨v110, rfl, ho0, hb⟩; have n0_ := Aside0.mk (Kd.R_elder' (by (with_reducible repeat (first | apply Kd.R_alloc | apply Kd.R_drewN | apply Kd.R_drew)); exact HO107.out) (Kd.R_base ho0) hb); have n1_ := Aside0.mk (Kd.R_lower (Kd.R_new' ho0 (Kd.R_lt (by (with_reducible repeat (first | apply Kd.R_alloc | apply Kd.R_drewN | apply Kd.R_drew)); exact HO107.out))) (below_size (by repeat (first | (with_reducible first | exact HB.out | apply below_alloc | apply pw_below_drewN | apply below_drew1) | exact HB.out)))); have n2_ := Aside0.mk (below_step (by repeat (first | (with_reducible first | exact HB.out | apply below_alloc | apply pw_below_drewN | apply below_drew1) | exact HB.out)) hb); clear HO107; clear HB; have HO107 := n0_; have HO111 := n1_; have HB := n2_; clear n0_ n1_ n2_; (try clear hb); (try clear hb2); (try clear hk); (try clear hi); (try clear ho0); obtain ⟨Ao31, co31, eo31⟩ := Kd.R_slice HO111.out; subst eo31) | (go_at_call 14; (with_reducible refine (P.crew_First.calls 0 t112 _ A7.out ?side1).mono ?_); (case side1 => exact Tabs.below HT.out (by repeat (first | (with_reducible first | exact HB.out | apply below_alloc | apply pw_below_drewN | apply below_drew1) | exact HB.out))); rintro e w32 ⟨rfl, hb⟩; have n0_ := Aside0.mk (Kd.R_below (by (with_reducible repeat (first | apply Kd.R_alloc | apply Kd.R_drewN | apply Kd.R_drew)); exact HO107.out) hb); have n1_ := Aside0.mk (Kd.R_below (by (with_reducible repeat (first | apply Kd.R_alloc | apply Kd.R_drewN | apply Kd.R_drew)); exact HO111.out) hb); have n2_ := Aside0.mk (below_step (by repeat (first | (with_reducible first | exact HB.out | apply below_alloc | apply pw_below_drewN | apply below_drew1) | exact HB.out)) hb); clear HO107; clear HO111; clear HB; have HO107 := n0_; have HO111 := n1_; have HB := n2_; clear n0_ n1_ n2_; (try clear hb); (try clear hb2); (try clear hk); (try clear hi)) | (go_at_call 14; (with_reducible refine (P.crew_First.calls 6 t113 _ A9.out ?side1).mono ?_); (case side1 => exact Tabs.below HT.out (by repeat (first | (with_reducible first | exact HB.out | apply below_alloc | apply pw_below_drewN | apply below_drew1) | exact HB.out))); rintro e w33 ⟨rfl, hb⟩; have n0_ := Aside0.mk (Kd.R_below (by (with_reducible repeat (first | apply Kd.R_alloc | apply Kd.R_drewN | apply Kd.R_drew)); exact HO107.out) hb); have n1_ := Aside0.mk (Kd.R_below (by (with_reducible repeat (first | apply Kd.R_alloc | apply Kd.R_drewN | apply Kd.R_drew)); exact HO111.out) hb); have n2_ := Aside0.mk (below_step (by repeat (first | (with_reducible first | exact HB.out | apply below_alloc | apply pw_below_drewN | apply below_drew1) | exact HB.out)) hb); clear HO107; clear HO111; clear HB; have HO107 := n0_; have HO111 := n1_; have HB := n2_; clear n0_ n1_ n2_; (try clear hb); (try clear hb2); (try clear hk); (try clear hi)) | (go_at_call 23; (with_reducible refine (P.crew_Print.calls k 5 t114 _ A11.out ?side1).mono ?_); (case side1 => exact Tabs.below HT.out (by repeat (first | (with_reducible first | exact HB.out | apply below_alloc | apply pw_below_drewN | apply below_drew1) | exact HB.out))); rintro e w34 ⟨rfl, hb⟩; have n0_ := Aside0.mk (Kd.R_below (by (with_reducible repeat (first | apply Kd.R_alloc | apply Kd.R_drewN | apply Kd.R_drew)); exact HO107.out) hb); have n1_ := Aside0.mk (Kd.R_below (by (with_reducible repeat (first | apply Kd.R_alloc | apply Kd.R_drewN | apply Kd.R_drew)); exact HO111.out) hb); have n2_ := Aside0.mk (below_step (by repeat (first | (with_reducible first | exact HB.out | apply below_alloc | apply pw_below_drewN | apply below_drew1) | exact HB.out)) hb); clear HO107; clear HO111; clear HB; have HO107 := n0_; have HO111 := n1_; have HB := n2_; clear n0_ n1_ n2_; (try clear hb); (try clear hb2); (try clear hk); (try clear hi)) | ((with_reducible refine gate_dst (N := 46) rfl ?_); (try (refine gate_guard (by rfl) ?_; dsimp only)); refine Kd.R_lit (Kd.int .u32) _ 22 ?hg (N := 46) ?hd (xs := ([5, 4, 6] : List Int)) (inner := [.int .u32 5, .int .u32 4, .int .u32 6]) (ok := fun _ => True) (okp := fun _ => True) ?hr ?hp (fun _ hk => hk) trivial (Below.refl _ _) (Nat.le_refl _) (by simp) ?_; (case hd => rfl); (case hg => rfl); (case hr => first | (go_simp; done) | (go_simp; rfl)); (case hp => exact (Reps.one (show Kd.M (Kd.int .u32) _ _ _ 5 [.int .u32 5] from rfl) (Reps.one (show Kd.M (Kd.int .u32) _ _ _ 4 [.int .u32 4] from rfl) (Reps.one (show Kd.M (Kd.int .u32) _ _ _ 6 [.int .u32 6] from rfl) (Reps.none _ _))))); intro v116 w35 ho36 hb hg_ hnew_; clear hg_ hnew_; (first | rw [← Ny115.out] at ho36 | (simp only [Int.reduceToNat] at ho36; rw [← Ny115.out] at ho36)); have n0_ := Aside0.mk (Kd.R_below (by (with_reducible repeat (first | apply Kd.R_alloc | apply Kd.R_drewN | apply Kd.R_drew)); exact HO107.out) hb); have n1_ := Aside0.mk (Kd.R_below (by (with_reducible repeat (first | apply Kd.R_alloc | apply Kd.R_drewN | apply Kd.R_drew)); exact HO111.out) hb); have n2_ := Aside0.mk (Kd.R_lower ho36 (below_size (by repeat (first | (with_reducible first | exact HB.out | apply below_alloc | apply pw_below_drewN | apply below_drew1) | exact HB.out)))); have n3_ := Aside0.mk (below_step (by repeat (first | (with_reducible first | exact HB.out | apply below_alloc | apply pw_below_drewN | apply below_drew1) | exact HB.out)) hb); clear HO107; clear HO111; clear HB; have HO107 := n0_; have HO111 := n1_; have HO117 := n2_; have HB := n3_; clear n0_ n1_ n2_ n3_; clear hb ho36; obtain ⟨Ao37, co37, eo37⟩ := Kd.R_slice HO117.out; subst eo37) | (go_at_call 19; (with_reducible refine (P.crew_Common.calls k _ _ y115 t118 _ ?side1 ?side2 A16.out).mono ?_); (case side1 => repeat (first | exact (Kd.R_reads' HO117.out).2.2 | (with_reducible refine Kd.C_alloc ?_ _) | (with_reducible refine Kd.C_drewN ?_ _) | (with_reducible refine Kd.C_drew ?_))); (case side2 => exact (Kd.R_reads' HO117.out).2.1); rintro e w' ⟨rfl, ⟨nd, rfl⟩⟩) | (go_at_call 15; (with_reducible refine (P.crew_Has.calls 255 7 false _ A18.out).mono ?_); rintro e w' ⟨rfl, ⟨nd, rfl⟩⟩) | (go_at_call 15; (with_reducible refine (P.crew_Has.calls 4 2 true _ A20.out).mono ?_); rintro e w' ⟨rfl, ⟨nd, rfl⟩⟩) | (go_at_call 13; (with_reducible refine (P.crew_Count.calls 7 t121 _ A22.out).mono ?_); rintro e w' ⟨rfl, ⟨nd, rfl⟩⟩) | (go_at_call 21; (with_reducible refine (P.crew_Within.calls 4 5 t122 _ A24.out).mono ?_); rintro e w' ⟨rfl, ⟨nd, rfl⟩⟩))
                          go_ret
                          exact ⟨by first | rfl | (simp [errW_none, errW_some] <;> rfl) | (simp [*, errW_none, errW_some] <;> rfl), by repeat (first | (with_reducible first | exact HB.out | apply below_alloc | apply pw_below_drewN | apply below_drew1) | exact HB.out)⟩
                        · rw [if_neg c23] at H
                          exact absurd H (by simp)
                      · replace c21 := Bool.eq_false_iff.mpr c21
                        subst c21
                        have H1 : (none) = some r := by rw [if_neg (show ¬ (false = true) by decide)] at H; exact H
                        clear H
                        have H := H1
                        clear H1
                        exact absurd H (by simp)
                  · rw [if_neg c17] at H
                    exact absurd H (by simp)
                · rw [if_neg c15] at H
                  exact absurd H (by simp)
              · rw [if_neg c14] at H
                exact absurd H (by simp)
            · rw [if_neg c13] at H
              exact absurd H (by simp)
          · rw [if_neg c12] at H
            exact absurd H (by simp)
        · rw [if_neg c10] at H
          exact absurd H (by simp)
      · rw [if_neg c8] at H
        exact absurd H (by simp)
    · rw [if_neg c6] at H
      exact absurd H (by simp)
  · rw [if_neg c4] at H
    exact absurd H (by simp)

/-! ### tocsinref07_Has: function 16 -/
mutual
def tocsinref07_Has.j0 : Nat → Int → Int → Bool → Option (Bool)
  | 0, _, _, _ => none
  | k + 1, x0, x1, x11 => if x11 = true then (some false) else (tocsinref07_Has.l0 k x0 x1 0)
def tocsinref07_Has.l0 : Nat → Int → Int → Int → Option (Bool)
  | 0, _, _, _ => none
  | k + 1, x0, x1, x5 => if x5 < x1 then (tocsinref07_Has.l0 k ((Int.tdiv x0 2) % 4294967296) x1 (wrap64 (x5 + 1))) else (some ((Int.tmod x0 2) == 1))
end
def tocsinref07_Has.f (k : Nat) (a0 : Int) (a1 : Int) : Option (Bool) := if a1 < 0 then (tocsinref07_Has.j0 k a0 a1 true) else (tocsinref07_Has.j0 k a0 a1 (decide (a1 > 5)))
theorem tocsinref07_Has.mono_l : ∀ k, (∀ y0 y1 y2, LeO (tocsinref07_Has.j0 k y0 y1 y2) (tocsinref07_Has.j0 (k + 1) y0 y1 y2)) ∧ (∀ y0 y1 y2, LeO (tocsinref07_Has.l0 k y0 y1 y2) (tocsinref07_Has.l0 (k + 1) y0 y1 y2))
  | 0 => ⟨fun _ _ _ r h => by simp [tocsinref07_Has.j0] at h, fun _ _ _ r h => by simp [tocsinref07_Has.l0] at h⟩
  | k + 1 => by
    obtain ⟨ih0, ih1⟩ := tocsinref07_Has.mono_l k
    refine ⟨?_, ?_⟩
    · intro y0 y1 y2
      unfold tocsinref07_Has.j0
      repeat' first
      | (with_reducible exact ih0 _ _ _)
      | (with_reducible exact ih1 _ _ _)
      | (with_reducible exact LeO.refl _)
      | (with_reducible exact LeO.none _)
      | (with_reducible refine LeO.ite ?_ ?_)
      | (with_reducible refine LeO.bind ?_ (fun _ => ?_))
      | exact ih0 _ _ _
      | exact ih1 _ _ _
      | exact LeO.none _
      | refine LeO.ite ?_ ?_
      | refine LeO.bind ?_ (fun _ => ?_)
    · intro y0 y1 y2
      unfold tocsinref07_Has.l0
      repeat' first
      | (with_reducible exact ih0 _ _ _)
      | (with_reducible exact ih1 _ _ _)
      | (with_reducible exact LeO.refl _)
      | (with_reducible exact LeO.none _)
      | (with_reducible refine LeO.ite ?_ ?_)
      | (with_reducible refine LeO.bind ?_ (fun _ => ?_))
      | exact ih0 _ _ _
      | exact ih1 _ _ _
      | exact LeO.none _
      | refine LeO.ite ?_ ?_
      | refine LeO.bind ?_ (fun _ => ?_)
theorem tocsinref07_Has.mono : ∀ a0 a1 k, LeO (tocsinref07_Has.f k a0 a1) (tocsinref07_Has.f (k + 1) a0 a1) := by
  intro a0 a1 k
  obtain ⟨ih0, ih1⟩ := tocsinref07_Has.mono_l k
  unfold tocsinref07_Has.f
  repeat' first
      | (with_reducible exact ih0 _ _ _)
      | (with_reducible exact ih1 _ _ _)
      | (with_reducible exact LeO.refl _)
      | (with_reducible exact LeO.none _)
      | (with_reducible refine LeO.ite ?_ ?_)
      | (with_reducible refine LeO.bind ?_ (fun _ => ?_))
      | exact ih0 _ _ _
      | exact ih1 _ _ _
      | exact LeO.none _
      | refine LeO.ite ?_ ?_
      | refine LeO.bind ?_ (fun _ => ?_)
set_option maxHeartbeats 8000000 in
set_option maxRecDepth 100000 in
theorem tocsinref07_Has.calls (k : Nat) (a0 : Int) (a1 : Int) (r : Bool) (w : World) (h : tocsinref07_Has.f k a0 a1 = some r) :
    Calls Tryd.prog 16 #[.int .u32 a0, .int .i64 a1] w fun e w' => e = .returned (.bool r) ∧ Drawn0 w w' := by
  have H : (if a1 < 0 then (tocsinref07_Has.j0 k a0 a1 true) else (tocsinref07_Has.j0 k a0 a1 (decide (a1 > 5)))) = some r := h
  clear h
  have HC3 := Aside0.mk H
  clear H
  go_enter Tryd.func16, Tryd.ntmps16
  go_upto_region 1 with (fail)
  go_cut [11] (fun v11 wc => ∃ (kq : Nat) (x11_2 : Bool), v11 = .bool x11_2 ∧ Aside0 (tocsinref07_Has.j0 kq a0 a1 x11_2 = some r) ∧ Aside0 (kq ≤ k) ∧ Drawn0 w wc)
  case first =>
    have H := HC3.out
    clear HC3
    by_cases c4 : a1 < 0
    · rw [if_pos c4] at H
      have c4b0 : decide (a1 < 0) = true := decide_eq_true c4
      clear c4
      (first | rw [c4b0] | (simp only [i64_w, i32_w]; rw [c4b0]) | skip)
      have H' := Aside0.mk H
      clear H
      go_wp2
      go_meet
      case rel => exact ⟨_, (true), (by first | rfl | (simp; done) | (simp [*]; done)), H', ⟨by first | omega | exact Nat.le_refl _⟩, by repeat (first | exact Drawn0.refl _ | apply Drawn0.step)⟩
    · rw [if_neg c4] at H
      have c4b0 : decide (a1 < 0) = false := decide_eq_false c4
      clear c4
      (first | rw [c4b0] | (simp only [i64_w, i32_w]; rw [c4b0]) | skip)
      have H' := Aside0.mk H
      clear H
      go_wp2
      go_meet
      case rel => exact ⟨_, (decide (a1 > 5)), (by first | rfl | (simp; done) | (simp [*]; done)), H', ⟨by first | omega | exact Nat.le_refl _⟩, by repeat (first | exact Drawn0.refl _ | apply Drawn0.step)⟩
  case rest =>
    clear HC3
    try clear c1
    try clear p2
    try clear c4
    try clear c4b0
    obtain ⟨kq, x11_2, rfl, HA, HJ2, ⟨mc2, rfl⟩⟩ := hcut
    cases kq with
    | zero => exact absurd HA.out (by simp [tocsinref07_Has.j0])
    | succ kj2 =>
      have H := HA.out
      clear HA
      simp only [tocsinref07_Has.j0] at H
      by_cases c5 : x11_2 = true
      · subst c5
        have H1 : (some false) = some r := by rw [if_pos rfl] at H; exact H
        clear H
        have H := H1
        clear H1
        obtain rfl := Option.some.inj H
        go_wp2
        go_ret
        exact ⟨by first | rfl | (simp; done) | (simp [*]; done), by repeat (first | exact Drawn0.refl _ | apply Drawn0.step)⟩
      · replace c5 := Bool.eq_false_iff.mpr c5
        subst c5
        have H1 : (tocsinref07_Has.l0 kj2 a0 a1 0) = some r := by rw [if_neg (show ¬ (false = true) by decide)] at H; exact H
        clear H
        have H := H1
        clear H1
        have H' := Aside0.mk H
        clear H
        go_wp2
        (try simp only [Act.put, List.setIfInBounds_toArray, List.set_cons_zero, List.set_cons_succ])
        go_loopg [0, 5] kj2 (fun kq v0 v5 w' => ∃ (x0_2 : Int) (x5_2 : Int), v0 = .int .u32 x0_2 ∧ v5 = .int .i64 x5_2 ∧ Aside0 (tocsinref07_Has.l0 kq x0_2 a1 x5_2 = some r) ∧ Aside0 (kq ≤ kj2) ∧ Drawn0 w w')
        case atStart => exact ⟨(a0), (0), (by first | rfl | (simp; done) | (simp [*]; done)), (by first | rfl | (simp; done) | (simp [*]; done)), H', ⟨Nat.le_refl _⟩, by repeat (first | exact Drawn0.refl _ | apply Drawn0.step)⟩
        case round =>
          clear H'
          try clear c1
          try clear c2
          try clear p2
          try clear c4
          try clear c4b0
          try clear c5
          try clear p2
          obtain ⟨x0_2, x5_2, rfl, rfl, HA, HK2, ⟨m2, rfl⟩⟩ := hrel
          cases gk with
          | zero => exact absurd HA.out (by simp [tocsinref07_Has.l0])
          | succ k2 =>
            have H := HA.out
            clear HA
            simp only [tocsinref07_Has.l0] at H
            by_cases c6 : x5_2 < a1
            · rw [if_pos c6] at H
              have c6b0 : decide (x5_2 < a1) = true := decide_eq_true c6
              clear c6
              have H' := Aside0.mk H
              clear H
              go_wp2
              go_roundg k2
              case measure => have := HJ2.out; have := HK2.out; omega
              case rel => exact ⟨((Int.tdiv x0_2 2) % 4294967296), (wrap64 (x5_2 + 1)), (by first | rfl | (simp; done) | (simp [*]; done)), (by first | rfl | (simp; done) | (simp [*]; done)), H', ⟨by have := HJ2.out; have := HK2.out; omega⟩, by repeat (first | exact Drawn0.refl _ | apply Drawn0.step)⟩
            · rw [if_neg c6] at H
              have c6b0 : decide (x5_2 < a1) = false := decide_eq_false c6
              clear c6
              obtain rfl := Option.some.inj H
              go_wp2
              go_ret
              exact ⟨by first | rfl | (simp; done) | (simp [*]; done), by repeat (first | exact Drawn0.refl _ | apply Drawn0.step)⟩

/-! ### tocsinref07_Members: function 10 -/
def tocsinref07_Members.l0 : Nat → Int → List Int → Int → Option (List Int)
  | 0, _, _, _ => none
  | k + 1, x0, x3, x4 => if x4 < 6 then ((tocsinref07_Has.f k x0 x4).bind fun t123 => (if t123 = true then (if x3.length < 17592186044416 then (tocsinref07_Members.l0 k x0 (x3 ++ [x4]) (wrap64 (x4 + 1))) else (none)) else (tocsinref07_Members.l0 k x0 x3 (wrap64 (x4 + 1))))) else (some x3)
def tocsinref07_Members.f (k : Nat) (a0 : Int) : Option (List Int) := tocsinref07_Members.l0 k a0 ([] : List Int) 0
theorem tocsinref07_Members.mono_l : ∀ k, (∀ y0 y1 y2, LeO (tocsinref07_Members.l0 k y0 y1 y2) (tocsinref07_Members.l0 (k + 1) y0 y1 y2))
  | 0 => fun _ _ _ r h => by simp [tocsinref07_Members.l0] at h
  | k + 1 => by
    have ih0 := tocsinref07_Members.mono_l k
    · intro y0 y1 y2
      unfold tocsinref07_Members.l0
      repeat' first
      | (with_reducible exact ih0 _ _ _)
      | (with_reducible exact tocsinref07_Has.mono _ _ _)
      | (with_reducible exact LeO.refl _)
      | (with_reducible exact LeO.none _)
      | (with_reducible refine LeO.ite ?_ ?_)
      | (with_reducible refine LeO.bind ?_ (fun _ => ?_))
      | exact ih0 _ _ _
      | exact tocsinref07_Has.mono _ _ _
      | exact LeO.none _
      | refine LeO.ite ?_ ?_
      | refine LeO.bind ?_ (fun _ => ?_)
theorem tocsinref07_Members.mono : ∀ a0 k, LeO (tocsinref07_Members.f k a0) (tocsinref07_Members.f (k + 1) a0) := by
  intro a0 k
  have ih0 := tocsinref07_Members.mono_l k
  unfold tocsinref07_Members.f
  repeat' first
      | (with_reducible exact ih0 _ _ _)
      | (with_reducible exact tocsinref07_Has.mono _ _ _)
      | (with_reducible exact LeO.refl _)
      | (with_reducible exact LeO.none _)
      | (with_reducible refine LeO.ite ?_ ?_)
      | (with_reducible refine LeO.bind ?_ (fun _ => ?_))
      | exact ih0 _ _ _
      | exact tocsinref07_Has.mono _ _ _
      | exact LeO.none _
      | refine LeO.ite ?_ ?_
      | refine LeO.bind ?_ (fun _ => ?_)
set_option maxHeartbeats 8000000 in
set_option maxRecDepth 100000 in
theorem tocsinref07_Members.calls (k : Nat) (a0 : Int) (r : List Int) (w : World) (h : tocsinref07_Members.f k a0 = some r) :
    Calls Tryd.prog 10 #[.int .u32 a0] w fun e w' => ∃ v0_ : Value, e = .returned (v0_) ∧ Kd.R (Kd.int .i64) 3 w' w.heap.size (fun _ => True) v0_ r ∧ Below w.heap.size w w' := by
  have HB := Aside0.mk (Below.refl w.heap.size w)
  have H : (tocsinref07_Members.l0 k a0 ([] : List Int) 0) = some r := h
  clear h
  have H' := Aside0.mk H
  clear H
  go_enter Tryd.func10, Tryd.ntmps10
  go_wp2
  (try simp only [Act.put, List.setIfInBounds_toArray, List.set_cons_zero, List.set_cons_succ])
  go_loopg [3, 4] k (fun kq v3 v4 w' => ∃ (x3_1 : List Int) (x4_1 : Int), v4 = .int .i64 x4_1 ∧ Aside0 (tocsinref07_Members.l0 kq a0 x3_1 x4_1 = some r) ∧ Aside0 (kq ≤ k) ∧ Aside0 (Kd.R (Kd.int .i64) 3 w' w.heap.size (fun _ => True) v3 x3_1) ∧ Aside0 (Below w.heap.size w w'))
  case atStart => exact ⟨(([] : List Int)), (0), (by first | rfl | (simp; done) | (simp [*]; done)), H', ⟨Nat.le_refl _⟩, ⟨by first | exact Kd.R_nil _ _ _ _ _ | exact Kd.N_nil _ _ _ _ _ | exact Kd.V_nil _ _ _ _ _ | exact Kd.Q_nil _ _ _ _ _ | exact Kd.S_nil _ _ _ _ _⟩, ⟨by repeat (first | (with_reducible first | exact HB.out | apply below_alloc | apply pw_below_drewN | apply below_drew1) | exact HB.out)⟩⟩
  case round =>
    clear H'
    try clear c1
    obtain ⟨x3_1, x4_1, rfl, HA, HK1, HO_3, HB⟩ := hrel
    cases gk with
    | zero => exact absurd HA.out (by simp [tocsinref07_Members.l0])
    | succ k1 =>
      have H := HA.out
      clear HA
      simp only [tocsinref07_Members.l0] at H
      by_cases c2 : x4_1 < 6
      · rw [if_pos c2] at H
        have c2b0 : decide (x4_1 < 6) = true := decide_eq_true c2
        clear c2
        replace H := Option.bind_eq_some_iff.mp H
        obtain ⟨t123, A30, H⟩ := H
        replace H : (if t123 = true then (if x3_1.length < 17592186044416 then (tocsinref07_Members.l0 k1 a0 (x3_1 ++ [x4_1]) (wrap64 (x4_1 + 1))) else (none)) else (tocsinref07_Members.l0 k1 a0 x3_1 (wrap64 (x4_1 + 1)))) = some r := H
        have A3 := Aside0.mk A30
        clear A30
        by_cases c4 : t123 = true
        · subst c4
          have H1 : (if x3_1.length < 17592186044416 then (tocsinref07_Members.l0 k1 a0 (x3_1 ++ [x4_1]) (wrap64 (x4_1 + 1))) else (none)) = some r := by rw [if_pos rfl] at H; exact H
          clear H
          have H := H1
          clear H1
          by_cases c5 : x3_1.length < 17592186044416
          · rw [if_pos c5] at H
            have LMc5 := Aside0.mk c5
            clear c5
            obtain ⟨y124, hy124⟩ : ∃ y_ : List Int, y_ = (x3_1 ++ [x4_1]) := ⟨_, rfl⟩
            replace H : (tocsinref07_Members.l0 k1 a0 y124 (wrap64 (x4_1 + 1))) = some r := by first | (rw [hy124]; with_reducible exact H) | (have H2_ := (Option.bind_some _ _).symm.trans H; rw [hy124]; with_reducible exact H2_) | (have H2_ := (Option.bind_some _ _).symm.trans H; with_reducible exact H2_) | with_reducible exact H | (rw [hy124]; exact H) | exact H
            have Ny124 := Aside0.mk hy124
            clear hy124
            have H' := Aside0.mk H
            clear H
            go_wp2_with (first | ((with_reducible refine gate_callee (f := 16) rfl ?_); refine goesL_ (some 11) rfl rfl Tryd.func16 (by kernel_rfl) rfl #[.int .u32 a0, .int .i64 x4_1] rfl (by (try simp only [List.map_toArray, List.map_cons, List.map_nil]); first | done | rfl | (simp only [List.length_drop, List.length_take]; rfl)) ?_; (with_reducible refine (tocsinref07_Has.calls k1 a0 x4_1 true _ A3.out).mono ?_); rintro e w' ⟨rfl, ⟨nd, rfl⟩⟩; refine ⟨_, rfl, ?_⟩) | ((with_reducible refine gate_builtin (b := .append) (xs := #[.tmp 12, .tmp 14]) rfl ?_); at_builtin; refine Kd.R_append (Kd.int .i64) (w0 := w) w.heap.size rfl (.tmp 12) (.tmp 14) 24 3 (.int .i64 0) 8 rfl Tryd.underlying24 info3 rfl (by decide) (by omega) u3 x3_1 x4_1 [.int .i64 x4_1] (fun _ => True) (fun _ => False) rfl rfl ?aP (fun _ hk => hk.elim) ?aF ?aO ?aB ?aS ?aL ?_; (case aP => exact rfl); (case aB => exact (by repeat (first | (with_reducible first | exact HB.out | apply below_alloc | apply pw_below_drewN | apply below_drew1) | exact HB.out))); (case aF => exact (fun _ _ => trivial)); (case aO => exact (by (with_reducible repeat (first | apply Kd.R_alloc | apply Kd.R_drewN | apply Kd.R_drew)); exact HO_3.out)); (case aS => exact (below_size (by repeat (first | (with_reducible first | exact HB.out | apply below_alloc | apply pw_below_drewN | apply below_drew1) | exact HB.out)))); (case aL => have := LMc5.out; omega); intro v125 w6 ho hb hg hat; rw [← Ny124.out] at ho; have n0_ := Aside0.mk (hb); have n1_ := Aside0.mk (ho); clear HB; clear HO_3; have HB := n0_; have HO126 := n1_; clear n0_ n1_; clear ho hb hg hat))
            go_roundg k1
            case measure => have := HK1.out; omega
            case rel => exact ⟨(y124), (wrap64 (x4_1 + 1)), (by first | rfl | (simp; done) | (simp [*]; done)), H', ⟨by have := HK1.out; omega⟩, ⟨by (with_reducible repeat (first | apply Kd.R_alloc | apply Kd.R_drewN | apply Kd.R_drew)); exact HO126.out⟩, ⟨by repeat (first | (with_reducible first | exact HB.out | apply below_alloc | apply pw_below_drewN | apply below_drew1) | exact HB.out)⟩⟩
          · rw [if_neg c5] at H
            exact absurd H (by simp)
        · replace c4 := Bool.eq_false_iff.mpr c4
          subst c4
          have H1 : (tocsinref07_Members.l0 k1 a0 x3_1 (wrap64 (x4_1 + 1))) = some r := by rw [if_neg (show ¬ (false = true) by decide)] at H; exact H
          clear H
          have H := H1
          clear H1
          have H' := Aside0.mk H
          clear H
          go_wp2_with (first | ((with_reducible refine gate_callee (f := 16) rfl ?_); refine goesL_ (some 11) rfl rfl Tryd.func16 (by kernel_rfl) rfl #[.int .u32 a0, .int .i64 x4_1] rfl (by (try simp only [List.map_toArray, List.map_cons, List.map_nil]); first | done | rfl | (simp only [List.length_drop, List.length_take]; rfl)) ?_; (with_reducible refine (tocsinref07_Has.calls k1 a0 x4_1 false _ A3.out).mono ?_); rintro e w' ⟨rfl, ⟨nd, rfl⟩⟩; refine ⟨_, rfl, ?_⟩))
          go_roundg k1
          case measure => have := HK1.out; omega
          case rel => exact ⟨(x3_1), (wrap64 (x4_1 + 1)), (by first | rfl | (simp; done) | (simp [*]; done)), H', ⟨by have := HK1.out; omega⟩, ⟨by (with_reducible repeat (first | apply Kd.R_alloc | apply Kd.R_drewN | apply Kd.R_drew)); exact HO_3.out⟩, ⟨by repeat (first | (with_reducible first | exact HB.out | apply below_alloc | apply pw_below_drewN | apply below_drew1) | exact HB.out)⟩⟩
      · rw [if_neg c2] at H
        have c2b0 : decide (x4_1 < 6) = false := decide_eq_false c2
        clear c2
        obtain rfl := Option.some.inj H
        go_wp2
        go_ret
        exact ⟨_, by first | rfl | (simp [errW_none, errW_some] <;> rfl) | (simp [*, errW_none, errW_some] <;> rfl), by (with_reducible repeat (first | apply Kd.R_alloc | apply Kd.R_drewN | apply Kd.R_drew)); exact HO_3.out, by repeat (first | (with_reducible first | exact HB.out | apply below_alloc | apply pw_below_drewN | apply below_drew1) | exact HB.out)⟩

/-! ### tocsinref07_Same: function 11 -/
def tocsinref07_Same.l0 : Nat → List Int → List Int → Int → Option (Bool)
  | 0, _, _, _ => none
  | k + 1, x0, x1, x5 => if x5 < (x0.length : Int) then (if 0 ≤ x5 then (if x5 < (x1.length : Int) then (if (rd x0 x5) = (rd x1 x5) then (tocsinref07_Same.l0 k x0 x1 (wrap64 (x5 + 1))) else (some false)) else (none)) else (none)) else (some true)
def tocsinref07_Same.f (k : Nat) (l0 : List Int) (l1 : List Int) : Option (Bool) := if (l0.length : Int) = (l1.length : Int) then (tocsinref07_Same.l0 k l0 l1 0) else (some false)
theorem tocsinref07_Same.mono_l : ∀ k, (∀ y0 y1 y2, LeO (tocsinref07_Same.l0 k y0 y1 y2) (tocsinref07_Same.l0 (k + 1) y0 y1 y2))
  | 0 => fun _ _ _ r h => by simp [tocsinref07_Same.l0] at h
  | k + 1 => by
    have ih0 := tocsinref07_Same.mono_l k
    · intro y0 y1 y2
      unfold tocsinref07_Same.l0
      repeat' first
      | (with_reducible exact ih0 _ _ _)
      | (with_reducible exact LeO.refl _)
      | (with_reducible exact LeO.none _)
      | (with_reducible refine LeO.ite ?_ ?_)
      | (with_reducible refine LeO.bind ?_ (fun _ => ?_))
      | exact ih0 _ _ _
      | exact LeO.none _
      | refine LeO.ite ?_ ?_
      | refine LeO.bind ?_ (fun _ => ?_)
theorem tocsinref07_Same.mono : ∀ a0 a1 k, LeO (tocsinref07_Same.f k a0 a1) (tocsinref07_Same.f (k + 1) a0 a1) := by
  intro a0 a1 k
  have ih0 := tocsinref07_Same.mono_l k
  unfold tocsinref07_Same.f
  repeat' first
      | (with_reducible exact ih0 _ _ _)
      | (with_reducible exact LeO.refl _)
      | (with_reducible exact LeO.none _)
      | (with_reducible refine LeO.ite ?_ ?_)
      | (with_reducible refine LeO.bind ?_ (fun _ => ?_))
      | exact ih0 _ _ _
      | exact LeO.none _
      | refine LeO.ite ?_ ?_
      | refine LeO.bind ?_ (fun _ => ?_)
set_option maxHeartbeats 8000000 in
set_option maxRecDepth 100000 in
theorem tocsinref07_Same.calls (k : Nat) (A0 : Option Addr) (c0 : Nat) (l0 : List Int) (A1 : Option Addr) (c1 : Nat) (l1 : List Int) (r : Bool) (w : World) (hr0 : Kd.C (Kd.int .i64) w A0 l0.length l0) (hc0 : l0.length ≤ c0) (hr1 : Kd.C (Kd.int .i64) w A1 l1.length l1) (hc1 : l1.length ≤ c1) (h : tocsinref07_Same.f k l0 l1 = some r) :
    Calls Tryd.prog 11 #[.slice A0 l0.length c0, .slice A1 l1.length c1] w fun e w' => e = .returned (.bool r) ∧ Drawn0 w w' := by
  have HR0 := Aside0.mk hr0
  have HC0 := Aside0.mk hc0
  clear hr0 hc0
  have HR1 := Aside0.mk hr1
  have HC1 := Aside0.mk hc1
  clear hr1 hc1
  have H : (if (l0.length : Int) = (l1.length : Int) then (tocsinref07_Same.l0 k l0 l1 0) else (some false)) = some r := h
  clear h
  by_cases c3 : (l0.length : Int) = (l1.length : Int)
  · rw [if_pos c3] at H
    have c3b0 : ((l0.length : Int) == (l1.length : Int)) = true := beq_iff_eq.mpr c3
    have c3b1 : ((l0.length : Int) != (l1.length : Int)) = false := bne_eq_false_iff_eq.mpr c3
    have c3b2 : (l0.length == l1.length) = true := by first | simpa using c3 | (simp at c3 ⊢; omega)
    clear c3
    have H' := Aside0.mk H
    clear H
    go_enter Tryd.func11, Tryd.ntmps11
    go_wp2
    repeat (go_quiet (fail); try go_wp2)
    (try simp only [Act.put, List.setIfInBounds_toArray, List.set_cons_zero, List.set_cons_succ])
    go_loopg [5] k (fun kq v5 w' => ∃ (x5_1 : Int), v5 = .int .i64 x5_1 ∧ Aside0 (tocsinref07_Same.l0 kq l0 l1 x5_1 = some r) ∧ Aside0 (kq ≤ k) ∧ Drawn0 w w')
    case atStart => exact ⟨(0), (by first | rfl | (simp; done) | (simp [*]; done)), H', ⟨Nat.le_refl _⟩, by repeat (first | exact Drawn0.refl _ | apply Drawn0.step)⟩
    case round =>
      clear H'
      try clear c1
      try clear p2
      try clear c3
      try clear c3b0
      try clear c3b1
      try clear c3b2
      obtain ⟨x5_1, rfl, HA, HK1, ⟨m1, rfl⟩⟩ := hrel
      cases gk with
      | zero => exact absurd HA.out (by simp [tocsinref07_Same.l0])
      | succ k1 =>
        have H := HA.out
        clear HA
        simp only [tocsinref07_Same.l0] at H
        by_cases c4 : x5_1 < (l0.length : Int)
        · rw [if_pos c4] at H
          have c4b0 : decide (x5_1 < (l0.length : Int)) = true := decide_eq_true c4
          clear c4
          by_cases c5 : 0 ≤ x5_1
          · rw [if_pos c5] at H
            have c5b0 : decide (0 ≤ x5_1) = true := decide_eq_true c5
            clear c5
            by_cases c6 : x5_1 < (l1.length : Int)
            · rw [if_pos c6] at H
              have c6b0 : decide (x5_1 < (l1.length : Int)) = true := decide_eq_true c6
              clear c6
              by_cases c7 : (rd l0 x5_1) = (rd l1 x5_1)
              · rw [if_pos c7] at H
                have c7b0 : ((rd l0 x5_1) == (rd l1 x5_1)) = true := beq_iff_eq.mpr c7
                have c7b1 : ((rd l0 x5_1) != (rd l1 x5_1)) = false := bne_eq_false_iff_eq.mpr c7
                clear c7
                have H' := Aside0.mk H
                clear H
                have p127 : 0 ≤ (x5_1 : Int) := of_decide_eq_true (by first | (with_reducible assumption) | assumption)
                have q127 : x5_1 < (l0.length : Int) := of_decide_eq_true (by first | (with_reducible assumption) | assumption)
                obtain ⟨ad127, e127, hx127_0⟩ := Kd.at_int HR0.out x5_1 p127 q127
                cases e127
                replace p127 := eq_true p127
                replace q127 := eq_true q127
                have p128 : 0 ≤ (x5_1 : Int) := of_decide_eq_true (by first | (with_reducible assumption) | assumption)
                have q128 : x5_1 < (l1.length : Int) := of_decide_eq_true (by first | (with_reducible assumption) | assumption)
                obtain ⟨ad128, e128, hx128_0⟩ := Kd.at_int HR1.out x5_1 p128 q128
                cases e128
                replace p128 := eq_true p128
                replace q128 := eq_true q128
                go_wp2
                repeat (go_quiet (fail); try go_wp2)
                go_roundg k1
                case measure => have := HK1.out; omega
                case rel => exact ⟨(wrap64 (x5_1 + 1)), (by first | rfl | (simp; done) | (simp [*]; done)), H', ⟨by have := HK1.out; omega⟩, by repeat (first | exact Drawn0.refl _ | apply Drawn0.step)⟩
              · rw [if_neg c7] at H
                have c7b0 : ((rd l0 x5_1) == (rd l1 x5_1)) = false := beq_eq_false_iff_ne.mpr c7
                have c7b1 : ((rd l0 x5_1) != (rd l1 x5_1)) = true := bne_iff_ne.mpr c7
                obtain rfl := Option.some.inj H
                have p127 : 0 ≤ (x5_1 : Int) := of_decide_eq_true (by first | (with_reducible assumption) | assumption)
                have q127 : x5_1 < (l0.length : Int) := of_decide_eq_true (by first | (with_reducible assumption) | assumption)
                obtain ⟨ad127, e127, hx127_0⟩ := Kd.at_int HR0.out x5_1 p127 q127
                cases e127
                replace p127 := eq_true p127
                replace q127 := eq_true q127
                have p128 : 0 ≤ (x5_1 : Int) := of_decide_eq_true (by first | (with_reducible assumption) | assumption)
                have q128 : x5_1 < (l1.length : Int) := of_decide_eq_true (by first | (with_reducible assumption) | assumption)
                obtain ⟨ad128, e128, hx128_0⟩ := Kd.at_int HR1.out x5_1 p128 q128
                cases e128
                replace p128 := eq_true p128
                replace q128 := eq_true q128
                go_wp2
                repeat (go_quiet (fail); try go_wp2)
                go_ret
                exact ⟨by first | rfl | (simp; done) | (simp [*]; done), by repeat (first | exact Drawn0.refl _ | apply Drawn0.step)⟩
            · rw [if_neg c6] at H
              exact absurd H (by simp)
          · rw [if_neg c5] at H
            exact absurd H (by simp)
        · rw [if_neg c4] at H
          have c4b0 : decide (x5_1 < (l0.length : Int)) = false := decide_eq_false c4
          clear c4
          obtain rfl := Option.some.inj H
          go_wp2
          repeat (go_quiet (fail); try go_wp2)
          go_ret
          exact ⟨by first | rfl | (simp; done) | (simp [*]; done), by repeat (first | exact Drawn0.refl _ | apply Drawn0.step)⟩
  · rw [if_neg c3] at H
    have c3b0 : ((l0.length : Int) == (l1.length : Int)) = false := beq_eq_false_iff_ne.mpr c3
    have c3b1 : ((l0.length : Int) != (l1.length : Int)) = true := bne_iff_ne.mpr c3
    have c3b2 : (l0.length == l1.length) = false := by first | simpa using c3 | (simp at c3 ⊢; omega)
    obtain rfl := Option.some.inj H
    go_enter Tryd.func11, Tryd.ntmps11
    go_wp2
    repeat (go_quiet (fail); try go_wp2)
    go_ret
    exact ⟨by first | rfl | (simp; done) | (simp [*]; done), by repeat (first | exact Drawn0.refl _ | apply Drawn0.step)⟩

/-! ### tocsinlaw07_CrewTells: function 3 -/
def tocsinlaw07_CrewTells.j0 : Nat → Int → Int → List Int → Int → Option (Bool)
  | 0, _, _, _, _ => none
  | k + 1, x0, x1, x5, x6 => (P.crew_Members.f k x0).bind fun t134 => ((tocsinref07_Same.f k t134 x5).bind fun t137 => (if t137 = true then ((P.crew_Count.f x0).bind fun t138 => (if t138 = (x5.length : Int) then ((P.crew_First.f x0).bind fun t139 => (if t139 = x6 then ((P.crew_Has.f x0 x1).bind fun t140 => ((tocsinref07_Has.f k x0 x1).bind fun t141 => (if (t140 == t141) = true then ((P.crew_Of.f k x5).bind fun t142 => (some (t142 == (Int.tmod x0 64)))) else (none)))) else (none))) else (none))) else (none)))
def tocsinlaw07_CrewTells.f (k : Nat) (a0 : Int) (a1 : Int) : Option (Bool) := (tocsinlaw07_fixed.f k).bind fun t129 => (if t129 = true then ((tocsinref07_Members.f k a0).bind fun t130 => (if (t130.length : Int) > 0 then (if 0 < (t130.length : Int) then (tocsinlaw07_CrewTells.j0 k a0 a1 t130 (rd t130 0)) else (none)) else (tocsinlaw07_CrewTells.j0 k a0 a1 t130 (-1)))) else (none))
theorem tocsinlaw07_CrewTells.mono_l : ∀ k, (∀ y0 y1 y2 y3, LeO (tocsinlaw07_CrewTells.j0 k y0 y1 y2 y3) (tocsinlaw07_CrewTells.j0 (k + 1) y0 y1 y2 y3))
  | 0 => fun _ _ _ _ r h => by simp [tocsinlaw07_CrewTells.j0] at h
  | k + 1 => by
    have ih0 := tocsinlaw07_CrewTells.mono_l k
    · intro y0 y1 y2 y3
      unfold tocsinlaw07_CrewTells.j0
      repeat' first
      | (with_reducible exact ih0 _ _ _ _)
      | (with_reducible exact P.crew_Members.mono _ _)
      | (with_reducible exact P.crew_Of.mono _ _)
      | (with_reducible exact tocsinlaw07_fixed.mono _)
      | (with_reducible exact tocsinref07_Has.mono _ _ _)
      | (with_reducible exact tocsinref07_Members.mono _ _)
      | (with_reducible exact tocsinref07_Same.mono _ _ _)
      | (with_reducible exact LeO.refl _)
      | (with_reducible exact LeO.none _)
      | (with_reducible refine LeO.ite ?_ ?_)
      | (with_reducible refine LeO.bind ?_ (fun _ => ?_))
      | exact ih0 _ _ _ _
      | exact P.crew_Members.mono _ _
      | exact P.crew_Of.mono _ _
      | exact tocsinlaw07_fixed.mono _
      | exact tocsinref07_Has.mono _ _ _
      | exact tocsinref07_Members.mono _ _
      | exact tocsinref07_Same.mono _ _ _
      | exact LeO.none _
      | refine LeO.ite ?_ ?_
      | refine LeO.bind ?_ (fun _ => ?_)
theorem tocsinlaw07_CrewTells.mono : ∀ a0 a1 k, LeO (tocsinlaw07_CrewTells.f k a0 a1) (tocsinlaw07_CrewTells.f (k + 1) a0 a1) := by
  intro a0 a1 k
  have ih0 := tocsinlaw07_CrewTells.mono_l k
  unfold tocsinlaw07_CrewTells.f
  repeat' first
      | (with_reducible exact ih0 _ _ _ _)
      | (with_reducible exact P.crew_Members.mono _ _)
      | (with_reducible exact P.crew_Of.mono _ _)
      | (with_reducible exact tocsinlaw07_fixed.mono _)
      | (with_reducible exact tocsinref07_Has.mono _ _ _)
      | (with_reducible exact tocsinref07_Members.mono _ _)
      | (with_reducible exact tocsinref07_Same.mono _ _ _)
      | (with_reducible exact LeO.refl _)
      | (with_reducible exact LeO.none _)
      | (with_reducible refine LeO.ite ?_ ?_)
      | (with_reducible refine LeO.bind ?_ (fun _ => ?_))
      | exact ih0 _ _ _ _
      | exact P.crew_Members.mono _ _
      | exact P.crew_Of.mono _ _
      | exact tocsinlaw07_fixed.mono _
      | exact tocsinref07_Has.mono _ _ _
      | exact tocsinref07_Members.mono _ _
      | exact tocsinref07_Same.mono _ _ _
      | exact LeO.none _
      | refine LeO.ite ?_ ?_
      | refine LeO.bind ?_ (fun _ => ?_)
set_option maxHeartbeats 8000000 in
set_option maxRecDepth 100000 in
theorem tocsinlaw07_CrewTells.calls (k : Nat) (a0 : Int) (a1 : Int) (r : Bool) (w : World) (h : tocsinlaw07_CrewTells.f k a0 a1 = some r) (hT : Tabs w) :
    Calls Tryd.prog 3 #[.int .u32 a0, .int .i64 a1] w fun e w' => e = .returned (.bool r) ∧ Below w.heap.size w w' := by
  have HT := Aside0.mk hT
  clear hT
  have HB := Aside0.mk (Below.refl w.heap.size w)
  have H : ((tocsinlaw07_fixed.f k).bind fun t129 => (if t129 = true then ((tocsinref07_Members.f k a0).bind fun t130 => (if (t130.length : Int) > 0 then (if 0 < (t130.length : Int) then (tocsinlaw07_CrewTells.j0 k a0 a1 t130 (rd t130 0)) else (none)) else (tocsinlaw07_CrewTells.j0 k a0 a1 t130 (-1)))) else (none))) = some r := h
  clear h
  replace H := Option.bind_eq_some_iff.mp H
  obtain ⟨t129, A30, H⟩ := H
  replace H : (if t129 = true then ((tocsinref07_Members.f k a0).bind fun t130 => (if (t130.length : Int) > 0 then (if 0 < (t130.length : Int) then (tocsinlaw07_CrewTells.j0 k a0 a1 t130 (rd t130 0)) else (none)) else (tocsinlaw07_CrewTells.j0 k a0 a1 t130 (-1)))) else (none)) = some r := H
  have A3 := Aside0.mk A30
  clear A30
  by_cases c4 : t129 = true
  · subst c4
    have H1 : ((tocsinref07_Members.f k a0).bind fun t130 => (if (t130.length : Int) > 0 then (if 0 < (t130.length : Int) then (tocsinlaw07_CrewTells.j0 k a0 a1 t130 (rd t130 0)) else (none)) else (tocsinlaw07_CrewTells.j0 k a0 a1 t130 (-1)))) = some r := by rw [if_pos rfl] at H; exact H
    clear H
    have H := H1
    clear H1
    replace H := Option.bind_eq_some_iff.mp H
    obtain ⟨t130, A50, H⟩ := H
    replace H : (if (t130.length : Int) > 0 then (if 0 < (t130.length : Int) then (tocsinlaw07_CrewTells.j0 k a0 a1 t130 (rd t130 0)) else (none)) else (tocsinlaw07_CrewTells.j0 k a0 a1 t130 (-1))) = some r := H
    have A5 := Aside0.mk A50
    clear A50
    have HC6 := Aside0.mk H
    clear H
    go_enter Tryd.func3, Tryd.ntmps3
    go_upto_if 13 with (first | ((with_reducible refine gate_callee (f := 9) rfl ?_); refine goesL_ (some 7) rfl rfl Tryd.func9 (by kernel_rfl) rfl #[] rfl (by (try simp only [List.map_toArray, List.map_cons, List.map_nil]); first | done | rfl | (simp only [List.length_drop, List.length_take]; rfl)) ?_; (with_reducible refine (tocsinlaw07_fixed.calls k  true _ A3.out ?side1).mono ?_); (case side1 => exact Tabs.below HT.out (by repeat (first | (with_reducible first | exact HB.out | apply below_alloc | apply pw_below_drewN | apply below_drew1) | exact HB.out))); rintro e w7 ⟨rfl, hb⟩; refine ⟨_, rfl, ?_⟩; have n0_ := Aside0.mk (below_step (by repeat (first | (with_reducible first | exact HB.out | apply below_alloc | apply pw_below_drewN | apply below_drew1) | exact HB.out)) hb); clear HB; have HB := n0_; clear n0_; (try clear hb); (try clear hb2); (try clear hk); (try clear hi)) | ((with_reducible refine gate_callee (f := 10) rfl ?_); refine goesL_ (some 10) rfl rfl Tryd.func10 (by kernel_rfl) rfl #[.int .u32 a0] rfl (by (try simp only [List.map_toArray, List.map_cons, List.map_nil]); first | done | rfl | (simp only [List.length_drop, List.length_take]; rfl)) ?_; (with_reducible refine (tocsinref07_Members.calls k a0 t130 _ A5.out).mono ?_); rintro e w8 ⟨v131, rfl, ho0, hb⟩; refine ⟨_, rfl, ?_⟩; have n0_ := Aside0.mk (Kd.R_lower ho0 (below_size (by repeat (first | (with_reducible first | exact HB.out | apply below_alloc | apply pw_below_drewN | apply below_drew1) | exact HB.out)))); have n1_ := Aside0.mk (below_step (by repeat (first | (with_reducible first | exact HB.out | apply below_alloc | apply pw_below_drewN | apply below_drew1) | exact HB.out)) hb); clear HB; have HO132 := n0_; have HB := n1_; clear n0_ n1_; (try clear hb); (try clear hb2); (try clear hk); (try clear hi); (try clear ho0); obtain ⟨Ao9, co9, eo9⟩ := Kd.R_slice HO132.out; subst eo9))
    (try simp only [Act.put, List.setIfInBounds_toArray, List.set_cons_zero, List.set_cons_succ])
    go_cut [6] (fun v6 wc => ∃ (kq : Nat) (x6_5 : Int), v6 = .int .i64 x6_5 ∧ Aside0 (tocsinlaw07_CrewTells.j0 kq a0 a1 t130 x6_5 = some r) ∧ Aside0 (kq ≤ k) ∧ Aside0 (Kd.R (Kd.int .i64) 3 wc w.heap.size (fun _ => True) (.slice Ao9 t130.length co9) t130) ∧ Aside0 (Below w.heap.size w wc))
    case first =>
      have H := HC6.out
      clear HC6
      by_cases c10 : (t130.length : Int) > 0
      · rw [if_pos c10] at H
        have c10b0 : decide (0 < (t130.length : Int)) = true := decide_eq_true c10
        have c10b1 : decide (0 < t130.length) = true := decide_eq_true (by omega)
        clear c10
        (first | rw [c10b0] | (simp only [i64_w, i32_w]; rw [c10b0]) | skip)
        by_cases c11 : 0 < (t130.length : Int)
        · rw [if_pos c11] at H
          have c11b0 : decide (0 < (t130.length : Int)) = true := decide_eq_true c11
          have c11b1 : decide (0 < t130.length) = true := decide_eq_true (by omega)
          clear c11
          have H' := Aside0.mk H
          clear H
          have p133 : 0 ≤ (0 : Int) := (by omega)
          have q133 : 0 < (t130.length : Int) := of_decide_eq_true (by first | (with_reducible assumption) | assumption)
          obtain ⟨ad133, e133, hx133_0⟩ := Kd.at_int (Kd.R_reads' HO132.out).2.2 0 p133 q133
          cases e133
          have qi133 : (0 < t130.length) = True := eq_true (by omega)
          (try rw [show ((0 : Int)).toNat = 0 from rfl] at hx133_0)
          (try rw [Addr.add_zero'] at hx133_0)
          replace p133 := eq_true p133
          replace q133 := eq_true q133
          go_wp2
          all_goals try (exfalso; (try have z0_ := of_decide_eq_true c10b1); (try have z1_ := of_decide_eq_true c11b0); (try have z2_ := of_decide_eq_true c11b1); omega)
          go_meet
          case rel => exact ⟨_, (rd t130 0), (by first | rfl | (simp; done) | (simp [*]; done)), H', ⟨by first | omega | exact Nat.le_refl _⟩, ⟨by (with_reducible repeat (first | apply Kd.R_alloc | apply Kd.R_drewN | apply Kd.R_drew)); exact HO132.out⟩, ⟨by repeat (first | (with_reducible first | exact HB.out | apply below_alloc | apply pw_below_drewN | apply below_drew1) | exact HB.out)⟩⟩
        · rw [if_neg c11] at H
          exact absurd H (by simp)
      · rw [if_neg c10] at H
        have c10b0 : decide (0 < (t130.length : Int)) = false := decide_eq_false c10
        have c10b1 : decide (0 < t130.length) = false := decide_eq_false (by omega)
        clear c10
        (first | rw [c10b0] | (simp only [i64_w, i32_w]; rw [c10b0]) | skip)
        have H' := Aside0.mk H
        clear H
        go_wp2
        all_goals try (exfalso; (try have z0_ := of_decide_eq_true c10b1); (try have z1_ := of_decide_eq_false c10b0); (try have z2_ := of_decide_eq_false c10b1); omega)
        go_meet
        case rel => exact ⟨_, ((-1)), (by first | rfl | (simp; done) | (simp [*]; done)), H', ⟨by first | omega | exact Nat.le_refl _⟩, ⟨by (with_reducible repeat (first | apply Kd.R_alloc | apply Kd.R_drewN | apply Kd.R_drew)); exact HO132.out⟩, ⟨by repeat (first | (with_reducible first | exact HB.out | apply below_alloc | apply pw_below_drewN | apply below_drew1) | exact HB.out)⟩⟩
    case rest =>
      clear HC6
      try clear c1
      try clear p1
      try clear q1
      try clear hx1
      try clear qi1
      try clear p2
      try clear c3
      try clear c4
      try clear c9
      try clear c10
      try clear c10b0
      try clear c10b1
      try clear c11
      try clear c11b0
      try clear c11b1
      try clear hx133_0
      try clear p133
      try clear q133
      obtain ⟨kq, x6_5, rfl, HA, HJ5, HO_5, HB⟩ := hcut
      cases kq with
      | zero => exact absurd HA.out (by simp [tocsinlaw07_CrewTells.j0])
      | succ kj5 =>
        have H := HA.out
        clear HA
        simp only [tocsinlaw07_CrewTells.j0] at H
        replace H := Option.bind_eq_some_iff.mp H
        obtain ⟨t134, A120, H⟩ := H
        replace H : ((tocsinref07_Same.f kj5 t134 t130).bind fun t137 => (if t137 = true then ((P.crew_Count.f a0).bind fun t138 => (if t138 = (t130.length : Int) then ((P.crew_First.f a0).bind fun t139 => (if t139 = x6_5 then ((P.crew_Has.f a0 a1).bind fun t140 => ((tocsinref07_Has.f kj5 a0 a1).bind fun t141 => (if (t140 == t141) = true then ((P.crew_Of.f kj5 t130).bind fun t142 => (some (t142 == (Int.tmod a0 64)))) else (none)))) else (none))) else (none))) else (none))) = some r := H
        have A12 := Aside0.mk A120
        clear A120
        replace H := Option.bind_eq_some_iff.mp H
        obtain ⟨t137, A130, H⟩ := H
        replace H : (if t137 = true then ((P.crew_Count.f a0).bind fun t138 => (if t138 = (t130.length : Int) then ((P.crew_First.f a0).bind fun t139 => (if t139 = x6_5 then ((P.crew_Has.f a0 a1).bind fun t140 => ((tocsinref07_Has.f kj5 a0 a1).bind fun t141 => (if (t140 == t141) = true then ((P.crew_Of.f kj5 t130).bind fun t142 => (some (t142 == (Int.tmod a0 64)))) else (none)))) else (none))) else (none))) else (none)) = some r := H
        have A13 := Aside0.mk A130
        clear A130
        by_cases c14 : t137 = true
        · subst c14
          have H1 : ((P.crew_Count.f a0).bind fun t138 => (if t138 = (t130.length : Int) then ((P.crew_First.f a0).bind fun t139 => (if t139 = x6_5 then ((P.crew_Has.f a0 a1).bind fun t140 => ((tocsinref07_Has.f kj5 a0 a1).bind fun t141 => (if (t140 == t141) = true then ((P.crew_Of.f kj5 t130).bind fun t142 => (some (t142 == (Int.tmod a0 64)))) else (none)))) else (none))) else (none))) = some r := by rw [if_pos rfl] at H; exact H
          clear H
          have H := H1
          clear H1
          replace H := Option.bind_eq_some_iff.mp H
          obtain ⟨t138, A150, H⟩ := H
          replace H : (if t138 = (t130.length : Int) then ((P.crew_First.f a0).bind fun t139 => (if t139 = x6_5 then ((P.crew_Has.f a0 a1).bind fun t140 => ((tocsinref07_Has.f kj5 a0 a1).bind fun t141 => (if (t140 == t141) = true then ((P.crew_Of.f kj5 t130).bind fun t142 => (some (t142 == (Int.tmod a0 64)))) else (none)))) else (none))) else (none)) = some r := H
          have A15 := Aside0.mk A150
          clear A150
          by_cases c16 : t138 = (t130.length : Int)
          · rw [if_pos c16] at H
            have c16b0 : (t138 == (t130.length : Int)) = true := beq_iff_eq.mpr c16
            have c16b1 : (t138 != (t130.length : Int)) = false := bne_eq_false_iff_eq.mpr c16
            clear c16
            replace H := Option.bind_eq_some_iff.mp H
            obtain ⟨t139, A170, H⟩ := H
            replace H : (if t139 = x6_5 then ((P.crew_Has.f a0 a1).bind fun t140 => ((tocsinref07_Has.f kj5 a0 a1).bind fun t141 => (if (t140 == t141) = true then ((P.crew_Of.f kj5 t130).bind fun t142 => (some (t142 == (Int.tmod a0 64)))) else (none)))) else (none)) = some r := H
            have A17 := Aside0.mk A170
            clear A170
            by_cases c18 : t139 = x6_5
            · rw [if_pos c18] at H
              have c18b0 : (t139 == x6_5) = true := beq_iff_eq.mpr c18
              have c18b1 : (t139 != x6_5) = false := bne_eq_false_iff_eq.mpr c18
              clear c18
              replace H := Option.bind_eq_some_iff.mp H
              obtain ⟨t140, A190, H⟩ := H
              replace H : ((tocsinref07_Has.f kj5 a0 a1).bind fun t141 => (if (t140 == t141) = true then ((P.crew_Of.f kj5 t130).bind fun t142 => (some (t142 == (Int.tmod a0 64)))) else (none))) = some r := H
              have A19 := Aside0.mk A190
              clear A190
              replace H := Option.bind_eq_some_iff.mp H
              obtain ⟨t141, A200, H⟩ := H
              replace H : (if (t140 == t141) = true then ((P.crew_Of.f kj5 t130).bind fun t142 => (some (t142 == (Int.tmod a0 64)))) else (none)) = some r := H
              have A20 := Aside0.mk A200
              clear A200
              by_cases c21 : (t140 == t141) = true
              · rw [if_pos c21] at H
                have c21b0 : (t140 == t141) = true := c21
                (try (have c21b1 : decide (t140 = t141) = true := by simpa using c21))
                (try (have c21b2 : (t140 == t141) = true := by simpa using c21))
                clear c21
                replace H := Option.bind_eq_some_iff.mp H
                obtain ⟨t142, A220, H⟩ := H
                replace H : (some (t142 == (Int.tmod a0 64))) = some r := H
                have A22 := Aside0.mk A220
                clear A220
                obtain rfl := Option.some.inj H
                go_wp2_with (first | ((with_reducible refine gate_callee (f := 12) rfl ?_); refine goesL_ (some 18) rfl rfl Tryd.func12 (by kernel_rfl) rfl #[.int .u32 a0] rfl (by (try simp only [List.map_toArray, List.map_cons, List.map_nil]); first | done | rfl | (simp only [List.length_drop, List.length_take]; rfl)) ?_; (with_reducible refine (P.crew_Members.calls kj5 a0 t134 _ A12.out ?side1).mono ?_); (case side1 => exact Tabs.below HT.out (by repeat (first | (with_reducible first | exact HB.out | apply below_alloc | apply pw_below_drewN | apply below_drew1) | exact HB.out))); rintro e w23 ⟨v135, rfl, ho0, hb⟩; refine ⟨_, rfl, ?_⟩; have n0_ := Aside0.mk (Kd.R_elder' (by (with_reducible repeat (first | apply Kd.R_alloc | apply Kd.R_drewN | apply Kd.R_drew)); exact HO_5.out) (Kd.R_base ho0) hb); have n1_ := Aside0.mk (Kd.R_lower (Kd.R_new' ho0 (Kd.R_lt (by (with_reducible repeat (first | apply Kd.R_alloc | apply Kd.R_drewN | apply Kd.R_drew)); exact HO_5.out))) (below_size (by repeat (first | (with_reducible first | exact HB.out | apply below_alloc | apply pw_below_drewN | apply below_drew1) | exact HB.out)))); have n2_ := Aside0.mk (below_step (by repeat (first | (with_reducible first | exact HB.out | apply below_alloc | apply pw_below_drewN | apply below_drew1) | exact HB.out)) hb); clear HO_5; clear HB; have HO_5 := n0_; have HO136 := n1_; have HB := n2_; clear n0_ n1_ n2_; (try clear hb); (try clear hb2); (try clear hk); (try clear hi); (try clear ho0); obtain ⟨Ao24, co24, eo24⟩ := Kd.R_slice HO136.out; subst eo24) | ((with_reducible refine gate_callee (f := 11) rfl ?_); refine goesL_ (some 20) rfl rfl Tryd.func11 (by kernel_rfl) rfl #[.slice Ao24 t134.length co24, .slice Ao9 t130.length co9] rfl (by (try simp only [List.map_toArray, List.map_cons, List.map_nil]); first | done | rfl | (simp only [List.length_drop, List.length_take]; rfl)) ?_; (with_reducible refine (tocsinref07_Same.calls kj5 _ _ t134 _ _ t130 true _ ?side1 ?side2 ?side3 ?side4 A13.out).mono ?_); (case side1 => repeat (first | exact (Kd.R_reads' HO136.out).2.2 | (with_reducible refine Kd.C_alloc ?_ _) | (with_reducible refine Kd.C_drewN ?_ _) | (with_reducible refine Kd.C_drew ?_))); (case side2 => exact (Kd.R_reads' HO136.out).2.1); (case side3 => repeat (first | exact (Kd.R_reads' HO_5.out).2.2 | (with_reducible refine Kd.C_alloc ?_ _) | (with_reducible refine Kd.C_drewN ?_ _) | (with_reducible refine Kd.C_drew ?_))); (case side4 => exact (Kd.R_reads' HO_5.out).2.1); rintro e w' ⟨rfl, ⟨nd, rfl⟩⟩; refine ⟨_, rfl, ?_⟩) | (go_at_call 13; (with_reducible refine (P.crew_Count.calls a0 t138 _ A15.out).mono ?_); rintro e w' ⟨rfl, ⟨nd, rfl⟩⟩) | (go_at_call 14; (with_reducible refine (P.crew_First.calls a0 t139 _ A17.out ?side1).mono ?_); (case side1 => exact Tabs.below HT.out (by repeat (first | (with_reducible first | exact HB.out | apply below_alloc | apply pw_below_drewN | apply below_drew1) | exact HB.out))); rintro e w25 ⟨rfl, hb⟩; have n0_ := Aside0.mk (Kd.R_below (by (with_reducible repeat (first | apply Kd.R_alloc | apply Kd.R_drewN | apply Kd.R_drew)); exact HO_5.out) hb); have n1_ := Aside0.mk (Kd.R_below (by (with_reducible repeat (first | apply Kd.R_alloc | apply Kd.R_drewN | apply Kd.R_drew)); exact HO136.out) hb); have n2_ := Aside0.mk (below_step (by repeat (first | (with_reducible first | exact HB.out | apply below_alloc | apply pw_below_drewN | apply below_drew1) | exact HB.out)) hb); clear HO_5; clear HO136; clear HB; have HO_5 := n0_; have HO136 := n1_; have HB := n2_; clear n0_ n1_ n2_; (try clear hb); (try clear hb2); (try clear hk); (try clear hi)) | (go_at_call 15; (with_reducible refine (P.crew_Has.calls a0 a1 t140 _ A19.out).mono ?_); rintro e w' ⟨rfl, ⟨nd, rfl⟩⟩) | (go_at_call 16; (with_reducible refine (tocsinref07_Has.calls kj5 a0 a1 t141 _ A20.out).mono ?_); rintro e w' ⟨rfl, ⟨nd, rfl⟩⟩) | (go_at_call 17; (with_reducible refine (P.crew_Of.calls kj5 _ _ t130 t142 _ ?side1 ?side2 A22.out).mono ?_); (case side1 => repeat (first | exact (Kd.R_reads' HO_5.out).2.2 | (with_reducible refine Kd.C_alloc ?_ _) | (with_reducible refine Kd.C_drewN ?_ _) | (with_reducible refine Kd.C_drew ?_))); (case side2 => exact (Kd.R_reads' HO_5.out).2.1); rintro e w' ⟨rfl, ⟨nd, rfl⟩⟩))
                go_ret
                exact ⟨by first | rfl | (simp [errW_none, errW_some] <;> rfl) | (simp [*, errW_none, errW_some] <;> rfl), by repeat (first | (with_reducible first | exact HB.out | apply below_alloc | apply pw_below_drewN | apply below_drew1) | exact HB.out)⟩
              · rw [if_neg c21] at H
                exact absurd H (by simp)
            · rw [if_neg c18] at H
              exact absurd H (by simp)
          · rw [if_neg c16] at H
            exact absurd H (by simp)
        · replace c14 := Bool.eq_false_iff.mpr c14
          subst c14
          have H1 : (none) = some r := by rw [if_neg (show ¬ (false = true) by decide)] at H; exact H
          clear H
          have H := H1
          clear H1
          exact absurd H (by simp)
  · replace c4 := Bool.eq_false_iff.mpr c4
    subst c4
    have H1 : (none) = some r := by rw [if_neg (show ¬ (false = true) by decide)] at H; exact H
    clear H
    have H := H1
    clear H1
    exact absurd H (by simp)

/-- THE ONE PURE STATEMENT of tocsinlaw07_CrewTells: yours. -/
def tocsinlaw07_CrewTells.Pure : Prop := ∀ (a0 : Int) (a1 : Int), (Lit.int .u32 a0).wf = true → (Lit.int .i64 a1).wf = true → ∃ k, tocsinlaw07_CrewTells.f k a0 a1 = some true
theorem tocsinlaw07_CrewTells.walk (P : tocsinlaw07_CrewTells.Pure) (a0 : Int) (a1 : Int) (w : World) (w0 : (Lit.int .u32 a0).wf = true) (w1 : (Lit.int .i64 a1).wf = true) (hT : Tabs w) :
    Calls Tryd.prog 3 #[.int .u32 a0, .int .i64 a1] w fun e w' => e = .returned (.bool true) ∧ Below w.heap.size w w' := by
  obtain ⟨k, h⟩ := P a0 a1 w0 w1
  refine (tocsinlaw07_CrewTells.calls k a0 a1 true w h hT).mono ?_
  rintro e w' ⟨rfl, hd⟩
  exact ⟨rfl, hd⟩

end Go.Proofs.YtlaikchebojidaaDoor.T
