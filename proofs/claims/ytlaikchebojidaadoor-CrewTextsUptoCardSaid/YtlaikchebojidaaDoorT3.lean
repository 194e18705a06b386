/- Contracts of functions that the statements reach, written by a program of this claim's own; no condition. -/
import Derived.Test.YtlaikchebojidaaDoorT0
import Derived.Test.YtlaikchebojidaaDoorT1
import Derived.Test.YtlaikchebojidaaDoorT2
import Derived.Test.YtlaikchebojidaaDoorP1
import Derived.Test.YtlaikchebojidaaDoorQ1
import Derived.Test.YtlaikchebojidaaDoorTabs
namespace Go.Proofs.YtlaikchebojidaaDoor.T
open Go.RowKit Go.Proofs.YtlaikchebojidaaDoorW.PrintWords Go.Proofs.YtlaikchebojidaaDoorW.PrintLast Go.Proofs.YtlaikchebojidaaDoorW.PrintMore
attribute [local go_sem] max2_int min2_int max_two min_two max_three min_three max_four min_four   -- for this text's walks alone
set_option linter.unusedVariables false
set_option linter.unusedSimpArgs false

/-! ### tocsinref07_Parse: function 24 -/
def tocsinref07_Parse.l0 : Nat → ByteArray → Int → Option (Int × Int)
  | 0, _, _ => none
  | k + 1, x0, x4 => if x4 < 64 then ((tocsinref07_Print.f k x4).bind fun t176 => (if t176.toList = x0.toList then (some (x4, 0)) else (tocsinref07_Parse.l0 k x0 ((x4 + 1) % 4294967296)))) else (some (0, 2))
def tocsinref07_Parse.f (k : Nat) (a0 : ByteArray) : Option (Int × Int) := tocsinref07_Parse.l0 k a0 0
theorem tocsinref07_Parse.mono_l : ∀ k, (∀ y0 y1, LeO (tocsinref07_Parse.l0 k y0 y1) (tocsinref07_Parse.l0 (k + 1) y0 y1))
  | 0 => fun _ _ r h => by simp [tocsinref07_Parse.l0] at h
  | k + 1 => by
    have ih0 := tocsinref07_Parse.mono_l k
    · intro y0 y1
      unfold tocsinref07_Parse.l0
      repeat' first
      | (with_reducible exact ih0 _ _)
      | (with_reducible exact tocsinref07_Print.mono _ _)
      | (with_reducible exact LeO.refl _)
      | (with_reducible exact LeO.none _)
      | (with_reducible refine LeO.ite ?_ ?_)
      | (with_reducible refine LeO.bind ?_ (fun _ => ?_))
      | exact ih0 _ _
      | exact tocsinref07_Print.mono _ _
      | exact LeO.none _
      | refine LeO.ite ?_ ?_
      | refine LeO.bind ?_ (fun _ => ?_)
theorem tocsinref07_Parse.mono : ∀ a0 k, LeO (tocsinref07_Parse.f k a0) (tocsinref07_Parse.f (k + 1) a0) := by
  intro a0 k
  have ih0 := tocsinref07_Parse.mono_l k
  unfold tocsinref07_Parse.f
  repeat' first
      | (with_reducible exact ih0 _ _)
      | (with_reducible exact tocsinref07_Print.mono _ _)
      | (with_reducible exact LeO.refl _)
      | (with_reducible exact LeO.none _)
      | (with_reducible refine LeO.ite ?_ ?_)
      | (with_reducible refine LeO.bind ?_ (fun _ => ?_))
      | exact ih0 _ _
      | exact tocsinref07_Print.mono _ _
      | exact LeO.none _
      | refine LeO.ite ?_ ?_
      | refine LeO.bind ?_ (fun _ => ?_)
set_option maxHeartbeats 8000000 in
set_option maxRecDepth 100000 in
theorem tocsinref07_Parse.calls (k : Nat) (a0 : ByteArray) (r1 : Int) (r2 : Int) (w : World) (h : tocsinref07_Parse.f k a0 = some (r1, r2)) :
    Calls Tryd.prog 24 #[.string a0] w fun e w' => e = .returned (.tuple #[.int .u32 r1, .int .i64 r2]) ∧ Below w.heap.size w w' := by
  have HB := Aside0.mk (Below.refl w.heap.size w)
  have H : (tocsinref07_Parse.l0 k a0 0) = some (r1, r2) := h
  clear h
  have H' := Aside0.mk H
  clear H
  go_enter Tryd.func24, Tryd.ntmps24
  go_wp2
  (try simp only [Act.put, List.setIfInBounds_toArray, List.set_cons_zero, List.set_cons_succ])
  go_loopg [4] k (fun kq v4 w' => ∃ (x4_1 : Int), v4 = .int .u32 x4_1 ∧ Aside0 (tocsinref07_Parse.l0 kq a0 x4_1 = some (r1, r2)) ∧ Aside0 (kq ≤ k) ∧ Aside0 (Below w.heap.size w w'))
  case atStart => exact ⟨(0), (by first | rfl | (simp; done) | (simp [*]; done)), H', ⟨Nat.le_refl _⟩, ⟨by repeat (first | (with_reducible first | exact HB.out | apply below_alloc | apply pw_below_drewN | apply below_drew1) | exact HB.out)⟩⟩
  case round =>
    clear H'
    obtain ⟨x4_1, rfl, HA, HK1, HB⟩ := hrel
    cases gk with
    | zero => exact absurd HA.out (by simp [tocsinref07_Parse.l0])
    | succ k1 =>
      have H := HA.out
      clear HA
      simp only [tocsinref07_Parse.l0] at H
      by_cases c2 : x4_1 < 64
      · rw [if_pos c2] at H
        have c2b0 : decide (x4_1 < 64) = true := decide_eq_true c2
        clear c2
        replace H := Option.bind_eq_some_iff.mp H
        obtain ⟨t176, A30, H⟩ := H
        replace H : (if t176.toList = a0.toList then (some (x4_1, 0)) else (tocsinref07_Parse.l0 k1 a0 ((x4_1 + 1) % 4294967296))) = some (r1, r2) := H
        have A3 := Aside0.mk A30
        clear A30
        by_cases c4 : t176.toList = a0.toList
        · rw [if_pos c4] at H
          have c4b0 : (t176.toList == a0.toList) = true := beq_iff_eq.mpr c4
          have c4b1 : (t176.toList != a0.toList) = false := bne_eq_false_iff_eq.mpr c4
          clear c4
          simp only [Option.some.injEq, Prod.mk.injEq] at H
          obtain ⟨rfl, rfl⟩ := H
          go_wp2_with (first | ((with_reducible refine gate_callee (f := 25) rfl ?_); refine goesL_ (some 10) rfl rfl Tryd.func25 (by kernel_rfl) rfl #[.int .u32 x4_1] rfl (by (try simp only [List.map_toArray, List.map_cons, List.map_nil]); first | done | rfl | (simp only [List.length_drop, List.length_take]; rfl)) ?_; (with_reducible refine (tocsinref07_Print.calls k1 x4_1 t176 _ A3.out).mono ?_); rintro e w5 ⟨rfl, hb⟩; refine ⟨_, rfl, ?_⟩; have n0_ := Aside0.mk (below_step (by repeat (first | (with_reducible first | exact HB.out | apply below_alloc | apply pw_below_drewN | apply below_drew1) | exact HB.out)) hb); clear HB; have HB := n0_; clear n0_; (try clear hb); (try clear hb2); (try clear hk); (try clear hi)))
          go_ret2
          exact ⟨by first | rfl | (simp [errW_none, errW_some] <;> rfl) | (simp [*, errW_none, errW_some] <;> rfl), by repeat (first | (with_reducible first | exact HB.out | apply below_alloc | apply pw_below_drewN | apply below_drew1) | exact HB.out)⟩
        · rw [if_neg c4] at H
          have c4b0 : (t176.toList == a0.toList) = false := beq_eq_false_iff_ne.mpr c4
          have c4b1 : (t176.toList != a0.toList) = true := bne_iff_ne.mpr c4
          have H' := Aside0.mk H
          clear H
          go_wp2_with (first | ((with_reducible refine gate_callee (f := 25) rfl ?_); refine goesL_ (some 10) rfl rfl Tryd.func25 (by kernel_rfl) rfl #[.int .u32 x4_1] rfl (by (try simp only [List.map_toArray, List.map_cons, List.map_nil]); first | done | rfl | (simp only [List.length_drop, List.length_take]; rfl)) ?_; (with_reducible refine (tocsinref07_Print.calls k1 x4_1 t176 _ A3.out).mono ?_); rintro e w6 ⟨rfl, hb⟩; refine ⟨_, rfl, ?_⟩; have n0_ := Aside0.mk (below_step (by repeat (first | (with_reducible first | exact HB.out | apply below_alloc | apply pw_below_drewN | apply below_drew1) | exact HB.out)) hb); clear HB; have HB := n0_; clear n0_; (try clear hb); (try clear hb2); (try clear hk); (try clear hi)))
          go_roundg k1
          case measure => have := HK1.out; omega
          case rel => exact ⟨((x4_1 + 1) % 4294967296), (by first | rfl | (simp; done) | (simp [*]; done)), H', ⟨by have := HK1.out; omega⟩, ⟨by repeat (first | (with_reducible first | exact HB.out | apply below_alloc | apply pw_below_drewN | apply below_drew1) | exact HB.out)⟩⟩
      · rw [if_neg c2] at H
        have c2b0 : decide (x4_1 < 64) = false := decide_eq_false c2
        clear c2
        simp only [Option.some.injEq, Prod.mk.injEq] at H
        obtain ⟨rfl, rfl⟩ := H
        go_wp2
        go_ret2
        exact ⟨by first | rfl | (simp [errW_none, errW_some] <;> rfl) | (simp [*, errW_none, errW_some] <;> rfl), by repeat (first | (with_reducible first | exact HB.out | apply below_alloc | apply pw_below_drewN | apply below_drew1) | exact HB.out)⟩

/-! ### tocsinlaw07_CrewTexts: function 6 -/
def tocsinlaw07_CrewTexts.f (k : Nat) (a0 : Int) (a1 : ByteArray) : Option (Bool) := (tocsinlaw07_fixed.f k).bind fun t177 => (if t177 = true then ((P.crew_Print.f k a0).bind fun t178 => ((Q.crew_Parse.f k t178).bind fun bt179 => ((Q.crew_Parse.f k a1).bind fun bt181 => ((tocsinref07_Parse.f k a1).bind fun bt183 => ((P.crew_Print.f k a0).bind fun t185 => ((tocsinref07_Print.f k a0).bind fun t186 => (if t185.toList = t186.toList then (if bt179.1 = (Int.tmod a0 64) then (if bt179.2 = 0 then (if bt181.1 = bt183.1 then (if bt181.2 = bt183.2 then (if bt181.2 = 0 then ((P.crew_Print.f k bt181.1).bind fun t187 => (some (t187.toList == a1.toList))) else (some true)) else (none)) else (none)) else (none)) else (none)) else (none)))))))) else (none))
theorem tocsinlaw07_CrewTexts.mono : ∀ a0 a1 k, LeO (tocsinlaw07_CrewTexts.f k a0 a1) (tocsinlaw07_CrewTexts.f (k + 1) a0 a1) := by
  intro a0 a1 k
  unfold tocsinlaw07_CrewTexts.f
  repeat' first
      | (with_reducible exact P.crew_Print.mono _ _)
      | (with_reducible exact Q.crew_Parse.mono _ _)
      | (with_reducible exact tocsinlaw07_fixed.mono _)
      | (with_reducible exact tocsinref07_Parse.mono _ _)
      | (with_reducible exact tocsinref07_Print.mono _ _)
      | (with_reducible exact LeO.refl _)
      | (with_reducible exact LeO.none _)
      | (with_reducible refine LeO.ite ?_ ?_)
      | (with_reducible refine LeO.bind ?_ (fun _ => ?_))
      | exact P.crew_Print.mono _ _
      | exact Q.crew_Parse.mono _ _
      | exact tocsinlaw07_fixed.mono _
      | exact tocsinref07_Parse.mono _ _
      | exact tocsinref07_Print.mono _ _
      | exact LeO.none _
      | refine LeO.ite ?_ ?_
      | refine LeO.bind ?_ (fun _ => ?_)
set_option maxHeartbeats 8000000 in
set_option maxRecDepth 100000 in
theorem tocsinlaw07_CrewTexts.calls (k : Nat) (a0 : Int) (a1 : ByteArray) (r : Bool) (w : World) (h : tocsinlaw07_CrewTexts.f k a0 a1 = some r) (hT : Tabs w) :
    Calls Tryd.prog 6 #[.int .u32 a0, .string a1] w fun e w' => e = .returned (.bool r) ∧ Below w.heap.size w w' := by
  have HT := Aside0.mk hT
  clear hT
  have HB := Aside0.mk (Below.refl w.heap.size w)
  have H : ((tocsinlaw07_fixed.f k).bind fun t177 => (if t177 = true then ((P.crew_Print.f k a0).bind fun t178 => ((Q.crew_Parse.f k t178).bind fun bt179 => ((Q.crew_Parse.f k a1).bind fun bt181 => ((tocsinref07_Parse.f k a1).bind fun bt183 => ((P.crew_Print.f k a0).bind fun t185 => ((tocsinref07_Print.f k a0).bind fun t186 => (if t185.toList = t186.toList then (if bt179.1 = (Int.tmod a0 64) then (if bt179.2 = 0 then (if bt181.1 = bt183.1 then (if bt181.2 = bt183.2 then (if bt181.2 = 0 then ((P.crew_Print.f k bt181.1).bind fun t187 => (some (t187.toList == a1.toList))) else (some true)) else (none)) else (none)) else (none)) else (none)) else (none)))))))) else (none))) = some r := h
  clear h
  replace H := Option.bind_eq_some_iff.mp H
  obtain ⟨t177, A30, H⟩ := H
  replace H : (if t177 = true then ((P.crew_Print.f k a0).bind fun t178 => ((Q.crew_Parse.f k t178).bind fun bt179 => ((Q.crew_Parse.f k a1).bind fun bt181 => ((tocsinref07_Parse.f k a1).bind fun bt183 => ((P.crew_Print.f k a0).bind fun t185 => ((tocsinref07_Print.f k a0).bind fun t186 => (if t185.toList = t186.toList then (if bt179.1 = (Int.tmod a0 64) then (if bt179.2 = 0 then (if bt181.1 = bt183.1 then (if bt181.2 = bt183.2 then (if bt181.2 = 0 then ((P.crew_Print.f k bt181.1).bind fun t187 => (some (t187.toList == a1.toList))) else (some true)) else (none)) else (none)) else (none)) else (none)) else (none)))))))) else (none)) = some r := H
  have A3 := Aside0.mk A30
  clear A30
  by_cases c4 : t177 = true
  · subst c4
    have H1 : ((P.crew_Print.f k a0).bind fun t178 => ((Q.crew_Parse.f k t178).bind fun bt179 => ((Q.crew_Parse.f k a1).bind fun bt181 => ((tocsinref07_Parse.f k a1).bind fun bt183 => ((P.crew_Print.f k a0).bind fun t185 => ((tocsinref07_Print.f k a0).bind fun t186 => (if t185.toList = t186.toList then (if bt179.1 = (Int.tmod a0 64) then (if bt179.2 = 0 then (if bt181.1 = bt183.1 then (if bt181.2 = bt183.2 then (if bt181.2 = 0 then ((P.crew_Print.f k bt181.1).bind fun t187 => (some (t187.toList == a1.toList))) else (some true)) else (none)) else (none)) else (none)) else (none)) else (none)))))))) = some r := by rw [if_pos rfl] at H; exact H
    clear H
    have H := H1
    clear H1
    replace H := Option.bind_eq_some_iff.mp H
    obtain ⟨t178, A50, H⟩ := H
    replace H : ((Q.crew_Parse.f k t178).bind fun bt179 => ((Q.crew_Parse.f k a1).bind fun bt181 => ((tocsinref07_Parse.f k a1).bind fun bt183 => ((P.crew_Print.f k a0).bind fun t185 => ((tocsinref07_Print.f k a0).bind fun t186 => (if t185.toList = t186.toList then (if bt179.1 = (Int.tmod a0 64) then (if bt179.2 = 0 then (if bt181.1 = bt183.1 then (if bt181.2 = bt183.2 then (if bt181.2 = 0 then ((P.crew_Print.f k bt181.1).bind fun t187 => (some (t187.toList == a1.toList))) else (some true)) else (none)) else (none)) else (none)) else (none)) else (none))))))) = some r := H
    have A5 := Aside0.mk A50
    clear A50
    replace H := Option.bind_eq_some_iff.mp H
    obtain ⟨⟨t179, t180⟩, A60, H⟩ := H
    replace H : ((Q.crew_Parse.f k a1).bind fun bt181 => ((tocsinref07_Parse.f k a1).bind fun bt183 => ((P.crew_Print.f k a0).bind fun t185 => ((tocsinref07_Print.f k a0).bind fun t186 => (if t185.toList = t186.toList then (if t179 = (Int.tmod a0 64) then (if t180 = 0 then (if bt181.1 = bt183.1 then (if bt181.2 = bt183.2 then (if bt181.2 = 0 then ((P.crew_Print.f k bt181.1).bind fun t187 => (some (t187.toList == a1.toList))) else (some true)) else (none)) else (none)) else (none)) else (none)) else (none)))))) = some r := H
    have A6 := Aside0.mk A60
    clear A60
    replace H := Option.bind_eq_some_iff.mp H
    obtain ⟨⟨t181, t182⟩, A70, H⟩ := H
    replace H : ((tocsinref07_Parse.f k a1).bind fun bt183 => ((P.crew_Print.f k a0).bind fun t185 => ((tocsinref07_Print.f k a0).bind fun t186 => (if t185.toList = t186.toList then (if t179 = (Int.tmod a0 64) then (if t180 = 0 then (if t181 = bt183.1 then (if t182 = bt183.2 then (if t182 = 0 then ((P.crew_Print.f k t181).bind fun t187 => (some (t187.toList == a1.toList))) else (some true)) else (none)) else (none)) else (none)) else (none)) else (none))))) = some r := H
    have A7 := Aside0.mk A70
    clear A70
    replace H := Option.bind_eq_some_iff.mp H
    obtain ⟨⟨t183, t184⟩, A80, H⟩ := H
    replace H : ((P.crew_Print.f k a0).bind fun t185 => ((tocsinref07_Print.f k a0).bind fun t186 => (if t185.toList = t186.toList then (if t179 = (Int.tmod a0 64) then (if t180 = 0 then (if t181 = t183 then (if t182 = t184 then (if t182 = 0 then ((P.crew_Print.f k t181).bind fun t187 => (some (t187.toList == a1.toList))) else (some true)) else (none)) else (none)) else (none)) else (none)) else (none)))) = some r := H
    have A8 := Aside0.mk A80
    clear A80
    replace H := Option.bind_eq_some_iff.mp H
    obtain ⟨t185, A90, H⟩ := H
    replace H : ((tocsinref07_Print.f k a0).bind fun t186 => (if t185.toList = t186.toList then (if t179 = (Int.tmod a0 64) then (if t180 = 0 then (if t181 = t183 then (if t182 = t184 then (if t182 = 0 then ((P.crew_Print.f k t181).bind fun t187 => (some (t187.toList == a1.toList))) else (some true)) else (none)) else (none)) else (none)) else (none)) else (none))) = some r := H
    have A9 := Aside0.mk A90
    clear A90
    replace H := Option.bind_eq_some_iff.mp H
    obtain ⟨t186, A100, H⟩ := H
    replace H : (if t185.toList = t186.toList then (if t179 = (Int.tmod a0 64) then (if t180 = 0 then (if t181 = t183 then (if t182 = t184 then (if t182 = 0 then ((P.crew_Print.f k t181).bind fun t187 => (some (t187.toList == a1.toList))) else (some true)) else (none)) else (none)) else (none)) else (none)) else (none)) = some r := H
    have A10 := Aside0.mk A100
    clear A100
    by_cases c11 : t185.toList = t186.toList
    · rw [if_pos c11] at H
      have c11b0 : (t185.toList == t186.toList) = true := beq_iff_eq.mpr c11
      have c11b1 : (t185.toList != t186.toList) = false := bne_eq_false_iff_eq.mpr c11
      clear c11
      by_cases c12 : t179 = (Int.tmod a0 64)
      · rw [if_pos c12] at H
        have c12b0 : (t179 == (Int.tmod a0 64)) = true := beq_iff_eq.mpr c12
        have c12b1 : (t179 != (Int.tmod a0 64)) = false := bne_eq_false_iff_eq.mpr c12
        clear c12
        by_cases c13 : t180 = 0
        · rw [if_pos c13] at H
          have c13b0 : (t180 == 0) = true := beq_iff_eq.mpr c13
          have c13b1 : (t180 != 0) = false := bne_eq_false_iff_eq.mpr c13
          clear c13
          by_cases c14 : t181 = t183
          · rw [if_pos c14] at H
            have c14b0 : (t181 == t183) = true := beq_iff_eq.mpr c14
            have c14b1 : (t181 != t183) = false := bne_eq_false_iff_eq.mpr c14
            clear c14
            by_cases c15 : t182 = t184
            · rw [if_pos c15] at H
              have c15b0 : (t182 == t184) = true := beq_iff_eq.mpr c15
              have c15b1 : (t182 != t184) = false := bne_eq_false_iff_eq.mpr c15
              clear c15
              by_cases c16 : t182 = 0
              · rw [if_pos c16] at H
                have c16b0 : (t182 == 0) = true := beq_iff_eq.mpr c16
                have c16b1 : (t182 != 0) = false := bne_eq_false_iff_eq.mpr c16
                clear c16
                replace H := Option.bind_eq_some_iff.mp H
                obtain ⟨t187, A170, H⟩ := H
                replace H : (some (t187.toList == a1.toList)) = some r := H
                have A17 := Aside0.mk A170
                clear A170
                obtain rfl := Option.some.inj H
                go_enter Tryd.func6, Tryd.ntmps6
                go_wp2_with (first | ((with_reducible refine gate_callee (f := 9) rfl ?_); refine goesL_ (some 11) rfl rfl Tryd.func9 (by kernel_rfl) rfl #[] rfl (by (try simp only [List.map_toArray, List.map_cons, List.map_nil]); first | done | rfl | (simp only [List.length_drop, List.length_take]; rfl)) ?_; (with_reducible refine (tocsinlaw07_fixed.calls k  true _ A3.out ?side1).mono ?_); (case side1 => exact Tabs.below HT.out (by repeat (first | (with_reducible first | exact HB.out | apply below_alloc | apply pw_below_drewN | apply below_drew1) | exact HB.out))); rintro e w18 ⟨rfl, hb⟩; refine ⟨_, rfl, ?_⟩; have n0_ := Aside0.mk (below_step (by repeat (first | (with_reducible first | exact HB.out | apply below_alloc | apply pw_below_drewN | apply below_drew1) | exact HB.out)) hb); clear HB; have HB := n0_; clear n0_; (try clear hb); (try clear hb2); (try clear hk); (try clear hi)) | ((with_reducible refine gate_callee (f := 23) rfl ?_); refine goesL_ (some 15) rfl rfl Tryd.func23 (by kernel_rfl) rfl #[.int .u32 a0] rfl (by (try simp only [List.map_toArray, List.map_cons, List.map_nil]); first | done | rfl | (simp only [List.length_drop, List.length_take]; rfl)) ?_; (with_reducible refine (P.crew_Print.calls k a0 t178 _ A5.out ?side1).mono ?_); (case side1 => exact Tabs.below HT.out (by repeat (first | (with_reducible first | exact HB.out | apply below_alloc | apply pw_below_drewN | apply below_drew1) | exact HB.out))); rintro e w19 ⟨rfl, hb⟩; refine ⟨_, rfl, ?_⟩; have n0_ := Aside0.mk (below_step (by repeat (first | (with_reducible first | exact HB.out | apply below_alloc | apply pw_below_drewN | apply below_drew1) | exact HB.out)) hb); clear HB; have HB := n0_; clear n0_; (try clear hb); (try clear hb2); (try clear hk); (try clear hi)) | ((with_reducible refine gate_callee (f := 22) rfl ?_); refine goesL_ (some 16) rfl rfl Tryd.func22 (by kernel_rfl) rfl #[.string t178] rfl (by (try simp only [List.map_toArray, List.map_cons, List.map_nil]); first | done | rfl | (simp only [List.length_drop, List.length_take]; rfl)) ?_; (with_reducible refine (Q.crew_Parse.calls k t178 t179 t180 _ A6.out ?side1).mono ?_); (case side1 => exact Tabs.below HT.out (by repeat (first | (with_reducible first | exact HB.out | apply below_alloc | apply pw_below_drewN | apply below_drew1) | exact HB.out))); rintro e w20 ⟨rfl, hb⟩; refine ⟨_, rfl, ?_⟩; have n0_ := Aside0.mk (below_step (by repeat (first | (with_reducible first | exact HB.out | apply below_alloc | apply pw_below_drewN | apply below_drew1) | exact HB.out)) hb); clear HB; have HB := n0_; clear n0_; (try clear hb); (try clear hb2); (try clear hk); (try clear hi)) | ((with_reducible refine gate_callee (f := 22) rfl ?_); refine goesL_ (some 21) rfl rfl Tryd.func22 (by kernel_rfl) rfl #[.string a1] rfl (by (try simp only [List.map_toArray, List.map_cons, List.map_nil]); first | done | rfl | (simp only [List.length_drop, List.length_take]; rfl)) ?_; (with_reducible refine (Q.crew_Parse.calls k a1 t181 t182 _ A7.out ?side1).mono ?_); (case side1 => exact Tabs.below HT.out (by repeat (first | (with_reducible first | exact HB.out | apply below_alloc | apply pw_below_drewN | apply below_drew1) | exact HB.out))); rintro e w21 ⟨rfl, hb⟩; refine ⟨_, rfl, ?_⟩; have n0_ := Aside0.mk (below_step (by repeat (first | (with_reducible first | exact HB.out | apply below_alloc | apply pw_below_drewN | apply below_drew1) | exact HB.out)) hb); clear HB; have HB := n0_; clear n0_; (try clear hb); (try clear hb2); (try clear hk); (try clear hi)) | ((with_reducible refine gate_callee (f := 24) rfl ?_); refine goesL_ (some 26) rfl rfl Tryd.func24 (by kernel_rfl) rfl #[.string a1] rfl (by (try simp only [List.map_toArray, List.map_cons, List.map_nil]); first | done | rfl | (simp only [List.length_drop, List.length_take]; rfl)) ?_; (with_reducible refine (tocsinref07_Parse.calls k a1 t183 t184 _ A8.out).mono ?_); rintro e w22 ⟨rfl, hb⟩; refine ⟨_, rfl, ?_⟩; have n0_ := Aside0.mk (below_step (by repeat (first | (with_reducible first | exact HB.out | apply below_alloc | apply pw_below_drewN | apply below_drew1) | exact HB.out)) hb); clear HB; have HB := n0_; clear n0_; (try clear hb); (try clear hb2); (try clear hk); (try clear hi)) | ((with_reducible refine gate_callee (f := 23) rfl ?_); refine goesL_ (some 30) rfl rfl Tryd.func23 (by kernel_rfl) rfl #[.int .u32 a0] rfl (by (try simp only [List.map_toArray, List.map_cons, List.map_nil]); first | done | rfl | (simp only [List.length_drop, List.length_take]; rfl)) ?_; (with_reducible refine (P.crew_Print.calls k a0 t185 _ A9.out ?side1).mono ?_); (case side1 => exact Tabs.below HT.out (by repeat (first | (with_reducible first | exact HB.out | apply below_alloc | apply pw_below_drewN | apply below_drew1) | exact HB.out))); rintro e w23 ⟨rfl, hb⟩; refine ⟨_, rfl, ?_⟩; have n0_ := Aside0.mk (below_step (by repeat (first | (with_reducible first | exact HB.out | apply below_alloc | apply pw_below_drewN | apply below_drew1) | exact HB.out)) hb); clear HB; have HB := n0_; clear n0_; (try clear hb); (try clear hb2); (try clear hk); (try clear hi)) | ((with_reducible refine gate_callee (f := 25) rfl ?_); refine goesL_ (some 32) rfl rfl Tryd.func25 (by kernel_rfl) rfl #[.int .u32 a0] rfl (by (try simp only [List.map_toArray, List.map_cons, List.map_nil]); first | done | rfl | (simp only [List.length_drop, List.length_take]; rfl)) ?_; (with_reducible refine (tocsinref07_Print.calls k a0 t186 _ A10.out).mono ?_); rintro e w24 ⟨rfl, hb⟩; refine ⟨_, rfl, ?_⟩; have n0_ := Aside0.mk (below_step (by repeat (first | (with_reducible first | exact HB.out | apply below_alloc | apply pw_below_drewN | apply below_drew1) | exact HB.out)) hb); clear HB; have HB := n0_; clear n0_; (try clear hb); (try clear hb2); (try clear hk); (try clear hi)) | (go_at_call 23; (with_reducible refine (P.crew_Print.calls k t181 t187 _ A17.out ?side1).mono ?_); (case side1 => exact Tabs.below HT.out (by repeat (first | (with_reducible first | exact HB.out | apply below_alloc | apply pw_below_drewN | apply below_drew1) | exact HB.out))); rintro e w25 ⟨rfl, hb⟩; have n0_ := Aside0.mk (below_step (by repeat (first | (with_reducible first | exact HB.out | apply below_alloc | apply pw_below_drewN | apply below_drew1) | exact HB.out)) hb); clear HB; have HB := n0_; clear n0_; (try clear hb); (try clear hb2); (try clear hk); (try clear hi)))
                go_ret
                exact ⟨by first | rfl | (simp [errW_none, errW_some] <;> rfl) | (simp [*, errW_none, errW_some] <;> rfl), by repeat (first | (with_reducible first | exact HB.out | apply below_alloc | apply pw_below_drewN | apply below_drew1) | exact HB.out)⟩
              · rw [if_neg c16] at H
                have c16b0 : (t182 == 0) = false := beq_eq_false_iff_ne.mpr c16
                have c16b1 : (t182 != 0) = true := bne_iff_ne.mpr c16
                obtain rfl := Option.some.inj H
                go_enter Tryd.func6, Tryd.ntmps6
                go_wp2_with (first | ((with_reducible refine gate_callee (f := 9) rfl ?_); refine goesL_ (some 11) rfl rfl Tryd.func9 (by kernel_rfl) rfl #[] rfl (by (try simp only [List.map_toArray, List.map_cons, List.map_nil]); first | done | rfl | (simp only [List.length_drop, List.length_take]; rfl)) ?_; (with_reducible refine (tocsinlaw07_fixed.calls k  true _ A3.out ?side1).mono ?_); (case side1 => exact Tabs.below HT.out (by repeat (first | (with_reducible first | exact HB.out | apply below_alloc | apply pw_below_drewN | apply below_drew1) | exact HB.out))); rintro e w26 ⟨rfl, hb⟩; refine ⟨_, rfl, ?_⟩; have n0_ := Aside0.mk (below_step (by repeat (first | (with_reducible first | exact HB.out | apply below_alloc | apply pw_below_drewN | apply below_drew1) | exact HB.out)) hb); clear HB; have HB := n0_; clear n0_; (try clear hb); (try clear hb2); (try clear hk); (try clear hi)) | ((with_reducible refine gate_callee (f := 23) rfl ?_); refine goesL_ (some 15) rfl rfl Tryd.func23 (by kernel_rfl) rfl #[.int .u32 a0] rfl (by (try simp only [List.map_toArray, List.map_cons, List.map_nil]); first | done | rfl | (simp only [List.length_drop, List.length_take]; rfl)) ?_; (with_reducible refine (P.crew_Print.calls k a0 t178 _ A5.out ?side1).mono ?_); (case side1 => exact Tabs.below HT.out (by repeat (first | (with_reducible first | exact HB.out | apply below_alloc | apply pw_below_drewN | apply below_drew1) | exact HB.out))); rintro e w27 ⟨rfl, hb⟩; refine ⟨_, rfl, ?_⟩; have n0_ := Aside0.mk (below_step (by repeat (first | (with_reducible first | exact HB.out | apply below_alloc | apply pw_below_drewN | apply below_drew1) | exact HB.out)) hb); clear HB; have HB := n0_; clear n0_; (try clear hb); (try clear hb2); (try clear hk); (try clear hi)) | ((with_reducible refine gate_callee (f := 22) rfl ?_); refine goesL_ (some 16) rfl rfl Tryd.func22 (by kernel_rfl) rfl #[.string t178] rfl (by (try simp only [List.map_toArray, List.map_cons, List.map_nil]); first | done | rfl | (simp only [List.length_drop, List.length_take]; rfl)) ?_; (with_reducible refine (Q.crew_Parse.calls k t178 t179 t180 _ A6.out ?side1).mono ?_); (case side1 => exact Tabs.below HT.out (by repeat (first | (with_reducible first | exact HB.out | apply below_alloc | apply pw_below_drewN | apply below_drew1) | exact HB.out))); rintro e w28 ⟨rfl, hb⟩; refine ⟨_, rfl, ?_⟩; have n0_ := Aside0.mk (below_step (by repeat (first | (with_reducible first | exact HB.out | apply below_alloc | apply pw_below_drewN | apply below_drew1) | exact HB.out)) hb); clear HB; have HB := n0_; clear n0_; (try clear hb); (try clear hb2); (try clear hk); (try clear hi)) | ((with_reducible refine gate_callee (f := 22) rfl ?_); refine goesL_ (some 21) rfl rfl Tryd.func22 (by kernel_rfl) rfl #[.string a1] rfl (by (try simp only [List.map_toArray, List.map_cons, List.map_nil]); first | done | rfl | (simp only [List.length_drop, List.length_take]; rfl)) ?_; (with_reducible refine (Q.crew_Parse.calls k a1 t181 t182 _ A7.out ?side1).mono ?_); (case side1 => exact Tabs.below HT.out (by repeat (first | (with_reducible first | exact HB.out | apply below_alloc | apply pw_below_drewN | apply below_drew1) | exact HB.out))); rintro e w29 ⟨rfl, hb⟩; refine ⟨_, rfl, ?_⟩; have n0_ := Aside0.mk (below_step (by repeat (first | (with_reducible first | exact HB.out | apply below_alloc | apply pw_below_drewN | apply below_drew1) | exact HB.out)) hb); clear HB; have HB := n0_; clear n0_; (try clear hb); (try clear hb2); (try clear hk); (try clear hi)) | ((with_reducible refine gate_callee (f := 24) rfl ?_); refine goesL_ (some 26) rfl rfl Tryd.func24 (by kernel_rfl) rfl #[.string a1] rfl (by (try simp only [List.map_toArray, List.map_cons, List.map_nil]); first | done | rfl | (simp only [List.length_drop, List.length_take]; rfl)) ?_; (with_reducible refine (tocsinref07_Parse.calls k a1 t183 t184 _ A8.out).mono ?_); rintro e w30 ⟨rfl, hb⟩; refine ⟨_, rfl, ?_⟩; have n0_ := Aside0.mk (below_step (by repeat (first | (with_reducible first | exact HB.out | apply below_alloc | apply pw_below_drewN | apply below_drew1) | exact HB.out)) hb); clear HB; have HB := n0_; clear n0_; (try clear hb); (try clear hb2); (try clear hk); (try clear hi)) | ((with_reducible refine gate_callee (f := 23) rfl ?_); refine goesL_ (some 30) rfl rfl Tryd.func23 (by kernel_rfl) rfl #[.int .u32 a0] rfl (by (try simp only [List.map_toArray, List.map_cons, List.map_nil]); first | done | rfl | (simp only [List.length_drop, List.length_take]; rfl)) ?_; (with_reducible refine (P.crew_Print.calls k a0 t185 _ A9.out ?side1).mono ?_); (case side1 => exact Tabs.below HT.out (by repeat (first | (with_reducible first | exact HB.out | apply below_alloc | apply pw_below_drewN | apply below_drew1) | exact HB.out))); rintro e w31 ⟨rfl, hb⟩; refine ⟨_, rfl, ?_⟩; have n0_ := Aside0.mk (below_step (by repeat (first | (with_reducible first | exact HB.out | apply below_alloc | apply pw_below_drewN | apply below_drew1) | exact HB.out)) hb); clear HB; have HB := n0_; clear n0_; (try clear hb); (try clear hb2); (try clear hk); (try clear hi)) | ((with_reducible refine gate_callee (f := 25) rfl ?_); refine goesL_ (some 32) rfl rfl Tryd.func25 (by kernel_rfl) rfl #[.int .u32 a0] rfl (by (try simp only [List.map_toArray, List.map_cons, List.map_nil]); first | done | rfl | (simp only [List.length_drop, List.length_take]; rfl)) ?_; (with_reducible refine (tocsinref07_Print.calls k a0 t186 _ A10.out).mono ?_); rintro e w32 ⟨rfl, hb⟩; refine ⟨_, rfl, ?_⟩; have n0_ := Aside0.mk (below_step (by repeat (first | (with_reducible first | exact HB.out | apply below_alloc | apply pw_below_drewN | apply below_drew1) | exact HB.out)) hb); clear HB; have HB := n0_; clear n0_; (try clear hb); (try clear hb2); (try clear hk); (try clear hi)))
                go_ret
                exact ⟨by first | rfl | (simp [errW_none, errW_some] <;> rfl) | (simp [*, errW_none, errW_some] <;> rfl), by repeat (first | (with_reducible first | exact HB.out | apply below_alloc | apply pw_below_drewN | apply below_drew1) | exact HB.out)⟩
            · rw [if_neg c15] at H
              exact absurd H (by simp)
          · rw [if_neg c14] at H
            exact absurd H (by simp)
        · rw [if_neg c13] at H
          exact absurd H (by simp)
      · rw [if_neg c12] at H
        exact absurd H (by simp)
    · rw [if_neg c11] at H
      exact absurd H (by simp)
  · replace c4 := Bool.eq_false_iff.mpr c4
    subst c4
    have H1 : (none) = some r := by rw [if_neg (show ¬ (false = true) by decide)] at H; exact H
    clear H
    have H := H1
    clear H1
    exact absurd H (by simp)

/-- THE ONE PURE STATEMENT of tocsinlaw07_CrewTexts: yours. -/
def tocsinlaw07_CrewTexts.Pure : Prop := ∀ (a0 : Int) (a1 : ByteArray), (Lit.int .u32 a0).wf = true → a1.size ≤ 140737488351232 → ∃ k, tocsinlaw07_CrewTexts.f k a0 a1 = some true
theorem tocsinlaw07_CrewTexts.walk (P : tocsinlaw07_CrewTexts.Pure) (a0 : Int) (a1 : ByteArray) (w : World) (w0 : (Lit.int .u32 a0).wf = true) (w1 : a1.size ≤ 140737488351232) (hT : Tabs w) :
    Calls Tryd.prog 6 #[.int .u32 a0, .string a1] w fun e w' => e = .returned (.bool true) ∧ Below w.heap.size w w' := by
  obtain ⟨k, h⟩ := P a0 a1 w0 w1
  refine (tocsinlaw07_CrewTexts.calls k a0 a1 true w h hT).mono ?_
  rintro e w' ⟨rfl, hd⟩
  exact ⟨rfl, hd⟩

/-! ### tocsinlaw07_CrewWithins: function 7 -/
def tocsinlaw07_CrewWithins.l0 : Nat → Int → Int → Bool → List Int → Int → Int → Option (Bool)
  | 0, _, _, _, _, _, _ => none
  | k + 1, x0, x1, x5, x11, x12, x13 => if x13 < x12 then (if 0 ≤ x13 then (if x13 < (x11.length : Int) then (if x5 = true then ((tocsinref07_Has.f k x1 (rd x11 x13)).bind fun t193 => (tocsinlaw07_CrewWithins.l0 k x0 x1 t193 x11 x12 (wrap64 (x13 + 1)))) else (tocsinlaw07_CrewWithins.l0 k x0 x1 false x11 x12 (wrap64 (x13 + 1)))) else (none)) else (none)) else ((P.crew_Within.f x0 x1).bind fun t194 => (if (t194 == x5) = true then ((P.crew_Within.f x0 (Go.bits .or .u32 x0 x1)).bind fun t195 => (if t195 = true then ((P.crew_Within.f (Go.bits .and .u32 x0 x1) x0).bind fun t196 => (if t196 = true then (if x5 = true then ((P.crew_Count.f x0).bind fun t197 => ((P.crew_Count.f x1).bind fun t198 => (some (decide (t197 ≤ t198))))) else (some true)) else (none))) else (none))) else (none)))
def tocsinlaw07_CrewWithins.f (k : Nat) (a0 : Int) (a1 : Int) : Option (Bool) := (tocsinlaw07_fixed.f k).bind fun t188 => (if t188 = true then ((tocsinref07_Members.f k a0).bind fun t189 => (tocsinlaw07_CrewWithins.l0 k a0 a1 true t189 (t189.length : Int) 0)) else (none))
theorem tocsinlaw07_CrewWithins.mono_l : ∀ k, (∀ y0 y1 y2 y3 y4 y5, LeO (tocsinlaw07_CrewWithins.l0 k y0 y1 y2 y3 y4 y5) (tocsinlaw07_CrewWithins.l0 (k + 1) y0 y1 y2 y3 y4 y5))
  | 0 => fun _ _ _ _ _ _ r h => by simp [tocsinlaw07_CrewWithins.l0] at h
  | k + 1 => by
    have ih0 := tocsinlaw07_CrewWithins.mono_l k
    · intro y0 y1 y2 y3 y4 y5
      unfold tocsinlaw07_CrewWithins.l0
      repeat' first
      | (with_reducible exact ih0 _ _ _ _ _ _)
      | (with_reducible exact tocsinlaw07_fixed.mono _)
      | (with_reducible exact tocsinref07_Has.mono _ _ _)
      | (with_reducible exact tocsinref07_Members.mono _ _)
      | (with_reducible exact LeO.refl _)
      | (with_reducible exact LeO.none _)
      | (with_reducible refine LeO.ite ?_ ?_)
      | (with_reducible refine LeO.bind ?_ (fun _ => ?_))
      | exact ih0 _ _ _ _ _ _
      | exact tocsinlaw07_fixed.mono _
      | exact tocsinref07_Has.mono _ _ _
      | exact tocsinref07_Members.mono _ _
      | exact LeO.none _
      | refine LeO.ite ?_ ?_
      | refine LeO.bind ?_ (fun _ => ?_)
theorem tocsinlaw07_CrewWithins.mono : ∀ a0 a1 k, LeO (tocsinlaw07_CrewWithins.f k a0 a1) (tocsinlaw07_CrewWithins.f (k + 1) a0 a1) := by
  intro a0 a1 k
  have ih0 := tocsinlaw07_CrewWithins.mono_l k
  unfold tocsinlaw07_CrewWithins.f
  repeat' first
      | (with_reducible exact ih0 _ _ _ _ _ _)
      | (with_reducible exact tocsinlaw07_fixed.mono _)
      | (with_reducible exact tocsinref07_Has.mono _ _ _)
      | (with_reducible exact tocsinref07_Members.mono _ _)
      | (with_reducible exact LeO.refl _)
      | (with_reducible exact LeO.none _)
      | (with_reducible refine LeO.ite ?_ ?_)
      | (with_reducible refine LeO.bind ?_ (fun _ => ?_))
      | exact ih0 _ _ _ _ _ _
      | exact tocsinlaw07_fixed.mono _
      | exact tocsinref07_Has.mono _ _ _
      | exact tocsinref07_Members.mono _ _
      | exact LeO.none _
      | refine LeO.ite ?_ ?_
      | refine LeO.bind ?_ (fun _ => ?_)
set_option maxHeartbeats 8000000 in
set_option maxRecDepth 100000 in
theorem tocsinlaw07_CrewWithins.calls (k : Nat) (a0 : Int) (a1 : Int) (r : Bool) (w : World) (h : tocsinlaw07_CrewWithins.f k a0 a1 = some r) (hT : Tabs w) :
    Calls Tryd.prog 7 #[.int .u32 a0, .int .u32 a1] w fun e w' => e = .returned (.bool r) ∧ Below w.heap.size w w' := by
  have HT := Aside0.mk hT
  clear hT
  have HB := Aside0.mk (Below.refl w.heap.size w)
  have H : ((tocsinlaw07_fixed.f k).bind fun t188 => (if t188 = true then ((tocsinref07_Members.f k a0).bind fun t189 => (tocsinlaw07_CrewWithins.l0 k a0 a1 true t189 (t189.length : Int) 0)) else (none))) = some r := h
  clear h
  replace H := Option.bind_eq_some_iff.mp H
  obtain ⟨t188, A30, H⟩ := H
  replace H : (if t188 = true then ((tocsinref07_Members.f k a0).bind fun t189 => (tocsinlaw07_CrewWithins.l0 k a0 a1 true t189 (t189.length : Int) 0)) else (none)) = some r := H
  have A3 := Aside0.mk A30
  clear A30
  by_cases c4 : t188 = true
  · subst c4
    have H1 : ((tocsinref07_Members.f k a0).bind fun t189 => (tocsinlaw07_CrewWithins.l0 k a0 a1 true t189 (t189.length : Int) 0)) = some r := by rw [if_pos rfl] at H; exact H
    clear H
    have H := H1
    clear H1
    replace H := Option.bind_eq_some_iff.mp H
    obtain ⟨t189, A50, H⟩ := H
    replace H : (tocsinlaw07_CrewWithins.l0 k a0 a1 true t189 (t189.length : Int) 0) = some r := H
    have A5 := Aside0.mk A50
    clear A50
    have H' := Aside0.mk H
    clear H
    go_enter Tryd.func7, Tryd.ntmps7
    go_wp2_with (first | ((with_reducible refine gate_callee (f := 9) rfl ?_); refine goesL_ (some 8) rfl rfl Tryd.func9 (by kernel_rfl) rfl #[] rfl (by (try simp only [List.map_toArray, List.map_cons, List.map_nil]); first | done | rfl | (simp only [List.length_drop, List.length_take]; rfl)) ?_; (with_reducible refine (tocsinlaw07_fixed.calls k  true _ A3.out ?side1).mono ?_); (case side1 => exact Tabs.below HT.out (by repeat (first | (with_reducible first | exact HB.out | apply below_alloc | apply pw_below_drewN | apply below_drew1) | exact HB.out))); rintro e w6 ⟨rfl, hb⟩; refine ⟨_, rfl, ?_⟩; have n0_ := Aside0.mk (below_step (by repeat (first | (with_reducible first | exact HB.out | apply below_alloc | apply pw_below_drewN | apply below_drew1) | exact HB.out)) hb); clear HB; have HB := n0_; clear n0_; (try clear hb); (try clear hb2); (try clear hk); (try clear hi)) | ((with_reducible refine gate_callee (f := 10) rfl ?_); refine goesL_ (some 11) rfl rfl Tryd.func10 (by kernel_rfl) rfl #[.int .u32 a0] rfl (by (try simp only [List.map_toArray, List.map_cons, List.map_nil]); first | done | rfl | (simp only [List.length_drop, List.length_take]; rfl)) ?_; (with_reducible refine (tocsinref07_Members.calls k a0 t189 _ A5.out).mono ?_); rintro e w7 ⟨v190, rfl, ho0, hb⟩; refine ⟨_, rfl, ?_⟩; have n0_ := Aside0.mk (Kd.R_lower ho0 (below_size (by repeat (first | (with_reducible first | exact HB.out | apply below_alloc | apply pw_below_drewN | apply below_drew1) | exact HB.out)))); have n1_ := Aside0.mk (below_step (by repeat (first | (with_reducible first | exact HB.out | apply below_alloc | apply pw_below_drewN | apply below_drew1) | exact HB.out)) hb); clear HB; have HO191 := n0_; have HB := n1_; clear n0_ n1_; (try clear hb); (try clear hb2); (try clear hk); (try clear hi); (try clear ho0); obtain ⟨Ao8, co8, eo8⟩ := Kd.R_slice HO191.out; subst eo8))
    (try simp only [Act.put, List.setIfInBounds_toArray, List.set_cons_zero, List.set_cons_succ])
    go_loopg [5, 13] k (fun kq v5 v13 w' => ∃ (x5_1 : Bool) (x13_1 : Int), v5 = .bool x5_1 ∧ v13 = .int .i64 x13_1 ∧ Aside0 (tocsinlaw07_CrewWithins.l0 kq a0 a1 x5_1 t189 (t189.length : Int) x13_1 = some r) ∧ Aside0 (kq ≤ k) ∧ Aside0 (Kd.R (Kd.int .i64) 3 w' w.heap.size (fun _ => True) (.slice Ao8 t189.length co8) t189) ∧ Aside0 (Below w.heap.size w w'))
    case atStart => exact ⟨(true), (0), (by first | rfl | (simp; done) | (simp [*]; done)), (by first | rfl | (simp; done) | (simp [*]; done)), H', ⟨Nat.le_refl _⟩, ⟨by (with_reducible repeat (first | apply Kd.R_alloc | apply Kd.R_drewN | apply Kd.R_drew)); exact HO191.out⟩, ⟨by repeat (first | (with_reducible first | exact HB.out | apply below_alloc | apply pw_below_drewN | apply below_drew1) | exact HB.out)⟩⟩
    case round =>
      clear H'
      try clear c1
      try clear p2
      try clear c4
      try clear c7
      obtain ⟨x5_1, x13_1, rfl, rfl, HA, HK1, HO_11, HB⟩ := hrel
      cases gk with
      | zero => exact absurd HA.out (by simp [tocsinlaw07_CrewWithins.l0])
      | succ k1 =>
        have H := HA.out
        clear HA
        simp only [tocsinlaw07_CrewWithins.l0] at H
        by_cases c9 : x13_1 < (t189.length : Int)
        · rw [if_pos c9] at H
          have c9b0 : decide (x13_1 < (t189.length : Int)) = true := decide_eq_true c9
          clear c9
          by_cases c10 : 0 ≤ x13_1
          · rw [if_pos c10] at H
            have c10b0 : decide (0 ≤ x13_1) = true := decide_eq_true c10
            clear c10
            by_cases c11 : x13_1 < (t189.length : Int)
            · rw [if_pos c11] at H
              have c11b0 : decide (x13_1 < (t189.length : Int)) = true := decide_eq_true c11
              clear c11
              by_cases c12 : x5_1 = true
              · subst c12
                have H1 : ((tocsinref07_Has.f k1 a1 (rd t189 x13_1)).bind fun t193 => (tocsinlaw07_CrewWithins.l0 k1 a0 a1 t193 t189 (t189.length : Int) (wrap64 (x13_1 + 1)))) = some r := by rw [if_pos rfl] at H; exact H
                clear H
                have H := H1
                clear H1
                replace H := Option.bind_eq_some_iff.mp H
                obtain ⟨t193, A130, H⟩ := H
                replace H : (tocsinlaw07_CrewWithins.l0 k1 a0 a1 t193 t189 (t189.length : Int) (wrap64 (x13_1 + 1))) = some r := H
                have A13 := Aside0.mk A130
                clear A130
                have H' := Aside0.mk H
                clear H
                have p192 : 0 ≤ (x13_1 : Int) := of_decide_eq_true (by first | (with_reducible assumption) | assumption)
                have q192 : x13_1 < (t189.length : Int) := of_decide_eq_true (by first | (with_reducible assumption) | assumption)
                obtain ⟨ad192, e192, hx192_0⟩ := Kd.at_int (Kd.R_reads' HO_11.out).2.2 x13_1 p192 q192
                cases e192
                replace p192 := eq_true p192
                replace q192 := eq_true q192
                go_wp2_with (first | (go_at_call 16; (with_reducible refine (tocsinref07_Has.calls k1 a1 (rd t189 x13_1) t193 _ A13.out).mono ?_); rintro e w' ⟨rfl, ⟨nd, rfl⟩⟩))
                all_goals try (exfalso; (try have z0_ := of_decide_eq_true c9b0); (try have z1_ := of_decide_eq_true c11b0); omega)
                go_roundg k1
                case measure => have := HK1.out; omega
                case rel => exact ⟨(t193), (wrap64 (x13_1 + 1)), (by first | rfl | (simp; done) | (simp [*]; done)), (by first | rfl | (simp; done) | (simp [*]; done)), H', ⟨by have := HK1.out; omega⟩, ⟨by (with_reducible repeat (first | apply Kd.R_alloc | apply Kd.R_drewN | apply Kd.R_drew)); exact HO_11.out⟩, ⟨by repeat (first | (with_reducible first | exact HB.out | apply below_alloc | apply pw_below_drewN | apply below_drew1) | exact HB.out)⟩⟩
              · replace c12 := Bool.eq_false_iff.mpr c12
                subst c12
                have H1 : (tocsinlaw07_CrewWithins.l0 k1 a0 a1 false t189 (t189.length : Int) (wrap64 (x13_1 + 1))) = some r := by rw [if_neg (show ¬ (false = true) by decide)] at H; exact H
                clear H
                have H := H1
                clear H1
                have H' := Aside0.mk H
                clear H
                have p192 : 0 ≤ (x13_1 : Int) := of_decide_eq_true (by first | (with_reducible assumption) | assumption)
                have q192 : x13_1 < (t189.length : Int) := of_decide_eq_true (by first | (with_reducible assumption) | assumption)
                obtain ⟨ad192, e192, hx192_0⟩ := Kd.at_int (Kd.R_reads' HO_11.out).2.2 x13_1 p192 q192
                cases e192
                replace p192 := eq_true p192
                replace q192 := eq_true q192
                go_wp2
                all_goals try (exfalso; (try have z0_ := of_decide_eq_true c9b0); (try have z1_ := of_decide_eq_true c11b0); omega)
                go_roundg k1
                case measure => have := HK1.out; omega
                case rel => exact ⟨(false), (wrap64 (x13_1 + 1)), (by first | rfl | (simp; done) | (simp [*]; done)), (by first | rfl | (simp; done) | (simp [*]; done)), H', ⟨by have := HK1.out; omega⟩, ⟨by (with_reducible repeat (first | apply Kd.R_alloc | apply Kd.R_drewN | apply Kd.R_drew)); exact HO_11.out⟩, ⟨by repeat (first | (with_reducible first | exact HB.out | apply below_alloc | apply pw_below_drewN | apply below_drew1) | exact HB.out)⟩⟩
            · rw [if_neg c11] at H
              exact absurd H (by simp)
          · rw [if_neg c10] at H
            exact absurd H (by simp)
        · rw [if_neg c9] at H
          have c9b0 : decide (x13_1 < (t189.length : Int)) = false := decide_eq_false c9
          clear c9
          replace H := Option.bind_eq_some_iff.mp H
          obtain ⟨t194, A140, H⟩ := H
          replace H : (if (t194 == x5_1) = true then ((P.crew_Within.f a0 (Go.bits .or .u32 a0 a1)).bind fun t195 => (if t195 = true then ((P.crew_Within.f (Go.bits .and .u32 a0 a1) a0).bind fun t196 => (if t196 = true then (if x5_1 = true then ((P.crew_Count.f a0).bind fun t197 => ((P.crew_Count.f a1).bind fun t198 => (some (decide (t197 ≤ t198))))) else (some true)) else (none))) else (none))) else (none)) = some r := H
          have A14 := Aside0.mk A140
          clear A140
          by_cases c15 : (t194 == x5_1) = true
          · rw [if_pos c15] at H
            have c15b0 : (t194 == x5_1) = true := c15
            (try (have c15b1 : decide (t194 = x5_1) = true := by simpa using c15))
            (try (have c15b2 : (t194 == x5_1) = true := by simpa using c15))
            clear c15
            replace H := Option.bind_eq_some_iff.mp H
            obtain ⟨t195, A160, H⟩ := H
            replace H : (if t195 = true then ((P.crew_Within.f (Go.bits .and .u32 a0 a1) a0).bind fun t196 => (if t196 = true then (if x5_1 = true then ((P.crew_Count.f a0).bind fun t197 => ((P.crew_Count.f a1).bind fun t198 => (some (decide (t197 ≤ t198))))) else (some true)) else (none))) else (none)) = some r := H
            have A16 := Aside0.mk A160
            clear A160
            by_cases c17 : t195 = true
            · subst c17
              have H1 : ((P.crew_Within.f (Go.bits .and .u32 a0 a1) a0).bind fun t196 => (if t196 = true then (if x5_1 = true then ((P.crew_Count.f a0).bind fun t197 => ((P.crew_Count.f a1).bind fun t198 => (some (decide (t197 ≤ t198))))) else (some true)) else (none))) = some r := by rw [if_pos rfl] at H; exact H
              clear H
              have H := H1
              clear H1
              replace H := Option.bind_eq_some_iff.mp H
              obtain ⟨t196, A180, H⟩ := H
              replace H : (if t196 = true then (if x5_1 = true then ((P.crew_Count.f a0).bind fun t197 => ((P.crew_Count.f a1).bind fun t198 => (some (decide (t197 ≤ t198))))) else (some true)) else (none)) = some r := H
              have A18 := Aside0.mk A180
              clear A180
              by_cases c19 : t196 = true
              · subst c19
                have H1 : (if x5_1 = true then ((P.crew_Count.f a0).bind fun t197 => ((P.crew_Count.f a1).bind fun t198 => (some (decide (t197 ≤ t198))))) else (some true)) = some r := by rw [if_pos rfl] at H; exact H
                clear H
                have H := H1
                clear H1
                by_cases c20 : x5_1 = true
                · subst c20
                  have H1 : ((P.crew_Count.f a0).bind fun t197 => ((P.crew_Count.f a1).bind fun t198 => (some (decide (t197 ≤ t198))))) = some r := by rw [if_pos rfl] at H; exact H
                  clear H
                  have H := H1
                  clear H1
                  replace H := Option.bind_eq_some_iff.mp H
                  obtain ⟨t197, A210, H⟩ := H
                  replace H : ((P.crew_Count.f a1).bind fun t198 => (some (decide (t197 ≤ t198)))) = some r := H
                  have A21 := Aside0.mk A210
                  clear A210
                  replace H := Option.bind_eq_some_iff.mp H
                  obtain ⟨t198, A220, H⟩ := H
                  replace H : (some (decide (t197 ≤ t198))) = some r := H
                  have A22 := Aside0.mk A220
                  clear A220
                  obtain rfl := Option.some.inj H
                  go_wp2_with (first | ((with_reducible refine gate_callee (f := 21) rfl ?_); refine goesL_ (some 26) rfl rfl Tryd.func21 (by kernel_rfl) rfl #[.int .u32 a0, .int .u32 a1] rfl (by (try simp only [List.map_toArray, List.map_cons, List.map_nil]); first | done | rfl | (simp only [List.length_drop, List.length_take]; rfl)) ?_; (with_reducible refine (P.crew_Within.calls a0 a1 t194 _ A14.out).mono ?_); rintro e w' ⟨rfl, ⟨nd, rfl⟩⟩; refine ⟨_, rfl, ?_⟩) | (go_at_call 21; (with_reducible refine (P.crew_Within.calls a0 (Go.bits .or .u32 a0 a1) true _ A16.out).mono ?_); rintro e w' ⟨rfl, ⟨nd, rfl⟩⟩) | (go_at_call 21; (with_reducible refine (P.crew_Within.calls (Go.bits .and .u32 a0 a1) a0 true _ A18.out).mono ?_); rintro e w' ⟨rfl, ⟨nd, rfl⟩⟩) | (go_at_call 13; (with_reducible refine (P.crew_Count.calls a0 t197 _ A21.out).mono ?_); rintro e w' ⟨rfl, ⟨nd, rfl⟩⟩) | (go_at_call 13; (with_reducible refine (P.crew_Count.calls a1 t198 _ A22.out).mono ?_); rintro e w' ⟨rfl, ⟨nd, rfl⟩⟩))
                  all_goals try (exfalso; (try have z0_ := of_decide_eq_true c9b0); (try have z1_ := of_decide_eq_false c9b0); omega)
                  go_ret
                  exact ⟨by first | rfl | (simp [errW_none, errW_some] <;> rfl) | (simp [*, errW_none, errW_some] <;> rfl), by repeat (first | (with_reducible first | exact HB.out | apply below_alloc | apply pw_below_drewN | apply below_drew1) | exact HB.out)⟩
                · replace c20 := Bool.eq_false_iff.mpr c20
                  subst c20
                  have H1 : (some true) = some r := by rw [if_neg (show ¬ (false = true) by decide)] at H; exact H
                  clear H
                  have H := H1
                  clear H1
                  obtain rfl := Option.some.inj H
                  go_wp2_with (first | ((with_reducible refine gate_callee (f := 21) rfl ?_); refine goesL_ (some 26) rfl rfl Tryd.func21 (by kernel_rfl) rfl #[.int .u32 a0, .int .u32 a1] rfl (by (try simp only [List.map_toArray, List.map_cons, List.map_nil]); first | done | rfl | (simp only [List.length_drop, List.length_take]; rfl)) ?_; (with_reducible refine (P.crew_Within.calls a0 a1 t194 _ A14.out).mono ?_); rintro e w' ⟨rfl, ⟨nd, rfl⟩⟩; refine ⟨_, rfl, ?_⟩) | (go_at_call 21; (with_reducible refine (P.crew_Within.calls a0 (Go.bits .or .u32 a0 a1) true _ A16.out).mono ?_); rintro e w' ⟨rfl, ⟨nd, rfl⟩⟩) | (go_at_call 21; (with_reducible refine (P.crew_Within.calls (Go.bits .and .u32 a0 a1) a0 true _ A18.out).mono ?_); rintro e w' ⟨rfl, ⟨nd, rfl⟩⟩))
                  all_goals try (exfalso; (try have z0_ := of_decide_eq_true c9b0); (try have z1_ := of_decide_eq_false c9b0); omega)
                  go_ret
                  exact ⟨by first | rfl | (simp [errW_none, errW_some] <;> rfl) | (simp [*, errW_none, errW_some] <;> rfl), by repeat (first | (with_reducible first | exact HB.out | apply below_alloc | apply pw_below_drewN | apply below_drew1) | exact HB.out)⟩
              · replace c19 := Bool.eq_false_iff.mpr c19
                subst c19
                have H1 : (none) = some r := by rw [if_neg (show ¬ (false = true) by decide)] at H; exact H
                clear H
                have H := H1
                clear H1
                exact absurd H (by simp)
            · replace c17 := Bool.eq_false_iff.mpr c17
              subst c17
              have H1 : (none) = some r := by rw [if_neg (show ¬ (false = true) by decide)] at H; exact H
              clear H
              have H := H1
              clear H1
              exact absurd H (by simp)
          · rw [if_neg c15] at H
            exact absurd H (by simp)
  · replace c4 := Bool.eq_false_iff.mpr c4
    subst c4
    have H1 : (none) = some r := by rw [if_neg (show ¬ (false = true) by decide)] at H; exact H
    clear H
    have H := H1
    clear H1
    exact absurd H (by simp)

/-- THE ONE PURE STATEMENT of tocsinlaw07_CrewWithins: yours. -/
def tocsinlaw07_CrewWithins.Pure : Prop := ∀ (a0 : Int) (a1 : Int), (Lit.int .u32 a0).wf = true → (Lit.int .u32 a1).wf = true → ∃ k, tocsinlaw07_CrewWithins.f k a0 a1 = some true
theorem tocsinlaw07_CrewWithins.walk (P : tocsinlaw07_CrewWithins.Pure) (a0 : Int) (a1 : Int) (w : World) (w0 : (Lit.int .u32 a0).wf = true) (w1 : (Lit.int .u32 a1).wf = true) (hT : Tabs w) :
    Calls Tryd.prog 7 #[.int .u32 a0, .int .u32 a1] w fun e w' => e = .returned (.bool true) ∧ Below w.heap.size w w' := by
  obtain ⟨k, h⟩ := P a0 a1 w0 w1
  refine (tocsinlaw07_CrewWithins.calls k a0 a1 true w h hT).mono ?_
  rintro e w' ⟨rfl, hd⟩
  exact ⟨rfl, hd⟩

/-! ### tocsinlaw07_CrewSplits: function 8 -/
def tocsinlaw07_CrewSplits.j0 : Nat → Int → Int → List Int → Option (Bool)
  | 0, _, _, _ => none
  | k + 1, x0, x1, x5 => (some (([] : List Int) : List Int)).bind fun y221 => (if y221.length + x5.length < 17592186044416 then ((some (y221 ++ x5 : List Int)).bind fun y224 => ((P.crew_Members.f k x1).bind fun t227 => (if y224.length + t227.length < 17592186044416 then ((P.crew_Of.f k (y224 ++ t227)).bind fun t233 => (if t233 = (Int.tmod (Go.bits .or .u32 x0 x1) 64) then ((P.crew_Count.f x0).bind fun t234 => ((P.crew_Count.f x1).bind fun t235 => ((P.crew_Count.f (Go.bits .or .u32 x0 x1)).bind fun t236 => ((P.crew_Count.f (Go.bits .and .u32 x0 x1)).bind fun t237 => (some ((wrap64 (t234 + t235)) == (wrap64 (t236 + t237)))))))) else (none))) else (none)))) else (none))
def tocsinlaw07_CrewSplits.f (k : Nat) (a0 : Int) (a1 : Int) : Option (Bool) := (tocsinlaw07_fixed.f k).bind fun t199 => (if t199 = true then ((P.crew_Members.f k a0).bind fun t200 => ((P.crew_First.f a0).bind fun t203 => (if t203 ≥ 0 then (if (t200.length : Int) = 0 then (none) else (if 0 < (t200.length : Int) then (if (rd t200 0) = t203 then (if 1 ≤ (t200.length : Int) then ((P.crew_Of.f k (t200.drop 1)).bind fun t209 => ((P.crew_Of.f k (([t203] : List Int))).bind fun t213 => (if (Go.bits .or .u32 t209 t213) = (Int.tmod a0 64) then ((P.crew_Of.f k (t200.drop 1)).bind fun t218 => ((P.crew_Count.f t218).bind fun t219 => ((P.crew_Count.f a0).bind fun t220 => (if t219 = (wrap64 (t220 - 1)) then (tocsinlaw07_CrewSplits.j0 k a0 a1 t200) else (none))))) else (none)))) else (none)) else (none)) else (none))) else (tocsinlaw07_CrewSplits.j0 k a0 a1 t200)))) else (none))
theorem tocsinlaw07_CrewSplits.mono_l : ∀ k, (∀ y0 y1 y2, LeO (tocsinlaw07_CrewSplits.j0 k y0 y1 y2) (tocsinlaw07_CrewSplits.j0 (k + 1) y0 y1 y2))
  | 0 => fun _ _ _ r h => by simp [tocsinlaw07_CrewSplits.j0] at h
  | k + 1 => by
    have ih0 := tocsinlaw07_CrewSplits.mono_l k
    · intro y0 y1 y2
      unfold tocsinlaw07_CrewSplits.j0
      repeat' first
      | (with_reducible exact ih0 _ _ _)
      | (with_reducible exact P.crew_Members.mono _ _)
      | (with_reducible exact P.crew_Of.mono _ _)
      | (with_reducible exact tocsinlaw07_fixed.mono _)
      | (with_reducible exact LeO.refl _)
      | (with_reducible exact LeO.none _)
      | (with_reducible refine LeO.ite ?_ ?_)
      | (with_reducible refine LeO.bind ?_ (fun _ => ?_))
      | exact ih0 _ _ _
      | exact P.crew_Members.mono _ _
      | exact P.crew_Of.mono _ _
      | exact tocsinlaw07_fixed.mono _
      | exact LeO.none _
      | refine LeO.ite ?_ ?_
      | refine LeO.bind ?_ (fun _ => ?_)
theorem tocsinlaw07_CrewSplits.mono : ∀ a0 a1 k, LeO (tocsinlaw07_CrewSplits.f k a0 a1) (tocsinlaw07_CrewSplits.f (k + 1) a0 a1) := by
  intro a0 a1 k
  have ih0 := tocsinlaw07_CrewSplits.mono_l k
  unfold tocsinlaw07_CrewSplits.f
  repeat' first
      | (with_reducible exact ih0 _ _ _)
      | (with_reducible exact P.crew_Members.mono _ _)
      | (with_reducible exact P.crew_Of.mono _ _)
      | (with_reducible exact tocsinlaw07_fixed.mono _)
      | (with_reducible exact LeO.refl _)
      | (with_reducible exact LeO.none _)
      | (with_reducible refine LeO.ite ?_ ?_)
      | (with_reducible refine LeO.bind ?_ (fun _ => ?_))
      | exact ih0 _ _ _
      | exact P.crew_Members.mono _ _
      | exact P.crew_Of.mono _ _
      | exact tocsinlaw07_fixed.mono _
      | exact LeO.none _
      | refine LeO.ite ?_ ?_
      | refine LeO.bind ?_ (fun _ => ?_)
set_option maxHeartbeats 8000000 in
set_option maxRecDepth 100000 in
theorem tocsinlaw07_CrewSplits.calls (k : Nat) (a0 : Int) (a1 : Int) (r : Bool) (w : World) (h : tocsinlaw07_CrewSplits.f k a0 a1 = some r) (hT : Tabs w) :
    Calls Tryd.prog 8 #[.int .u32 a0, .int .u32 a1] w fun e w' => e = .returned (.bool r) ∧ Below w.heap.size w w' := by
  have HT := Aside0.mk hT
  clear hT
  have HB := Aside0.mk (Below.refl w.heap.size w)
  have H : ((tocsinlaw07_fixed.f k).bind fun t199 => (if t199 = true then ((P.crew_Members.f k a0).bind fun t200 => ((P.crew_First.f a0).bind fun t203 => (if t203 ≥ 0 then (if (t200.length : Int) = 0 then (none) else (if 0 < (t200.length : Int) then (if (rd t200 0) = t203 then (if 1 ≤ (t200.length : Int) then ((P.crew_Of.f k (t200.drop 1)).bind fun t209 => ((P.crew_Of.f k (([t203] : List Int))).bind fun t213 => (if (Go.bits .or .u32 t209 t213) = (Int.tmod a0 64) then ((P.crew_Of.f k (t200.drop 1)).bind fun t218 => ((P.crew_Count.f t218).bind fun t219 => ((P.crew_Count.f a0).bind fun t220 => (if t219 = (wrap64 (t220 - 1)) then (tocsinlaw07_CrewSplits.j0 k a0 a1 t200) else (none))))) else (none)))) else (none)) else (none)) else (none))) else (tocsinlaw07_CrewSplits.j0 k a0 a1 t200)))) else (none))) = some r := h
  clear h
  replace H := Option.bind_eq_some_iff.mp H
  obtain ⟨t199, A30, H⟩ := H
  replace H : (if t199 = true then ((P.crew_Members.f k a0).bind fun t200 => ((P.crew_First.f a0).bind fun t203 => (if t203 ≥ 0 then (if (t200.length : Int) = 0 then (none) else (if 0 < (t200.length : Int) then (if (rd t200 0) = t203 then (if 1 ≤ (t200.length : Int) then ((P.crew_Of.f k (t200.drop 1)).bind fun t209 => ((P.crew_Of.f k (([t203] : List Int))).bind fun t213 => (if (Go.bits .or .u32 t209 t213) = (Int.tmod a0 64) then ((P.crew_Of.f k (t200.drop 1)).bind fun t218 => ((P.crew_Count.f t218).bind fun t219 => ((P.crew_Count.f a0).bind fun t220 => (if t219 = (wrap64 (t220 - 1)) then (tocsinlaw07_CrewSplits.j0 k a0 a1 t200) else (none))))) else (none)))) else (none)) else (none)) else (none))) else (tocsinlaw07_CrewSplits.j0 k a0 a1 t200)))) else (none)) = some r := H
  have A3 := Aside0.mk A30
  clear A30
  by_cases c4 : t199 = true
  · subst c4
    have H1 : ((P.crew_Members.f k a0).bind fun t200 => ((P.crew_First.f a0).bind fun t203 => (if t203 ≥ 0 then (if (t200.length : Int) = 0 then (none) else (if 0 < (t200.length : Int) then (if (rd t200 0) = t203 then (if 1 ≤ (t200.length : Int) then ((P.crew_Of.f k (t200.drop 1)).bind fun t209 => ((P.crew_Of.f k (([t203] : List Int))).bind fun t213 => (if (Go.bits .or .u32 t209 t213) = (Int.tmod a0 64) then ((P.crew_Of.f k (t200.drop 1)).bind fun t218 => ((P.crew_Count.f t218).bind fun t219 => ((P.crew_Count.f a0).bind fun t220 => (if t219 = (wrap64 (t220 - 1)) then (tocsinlaw07_CrewSplits.j0 k a0 a1 t200) else (none))))) else (none)))) else (none)) else (none)) else (none))) else (tocsinlaw07_CrewSplits.j0 k a0 a1 t200)))) = some r := by rw [if_pos rfl] at H; exact H
    clear H
    have H := H1
    clear H1
    replace H := Option.bind_eq_some_iff.mp H
    obtain ⟨t200, A50, H⟩ := H
    replace H : ((P.crew_First.f a0).bind fun t203 => (if t203 ≥ 0 then (if (t200.length : Int) = 0 then (none) else (if 0 < (t200.length : Int) then (if (rd t200 0) = t203 then (if 1 ≤ (t200.length : Int) then ((P.crew_Of.f k (t200.drop 1)).bind fun t209 => ((P.crew_Of.f k (([t203] : List Int))).bind fun t213 => (if (Go.bits .or .u32 t209 t213) = (Int.tmod a0 64) then ((P.crew_Of.f k (t200.drop 1)).bind fun t218 => ((P.crew_Count.f t218).bind fun t219 => ((P.crew_Count.f a0).bind fun t220 => (if t219 = (wrap64 (t220 - 1)) then (tocsinlaw07_CrewSplits.j0 k a0 a1 t200) else (none))))) else (none)))) else (none)) else (none)) else (none))) else (tocsinlaw07_CrewSplits.j0 k a0 a1 t200))) = some r := H
    have A5 := Aside0.mk A50
    clear A50
    replace H := Option.bind_eq_some_iff.mp H
    obtain ⟨t203, A60, H⟩ := H
    replace H : (if t203 ≥ 0 then (if (t200.length : Int) = 0 then (none) else (if 0 < (t200.length : Int) then (if (rd t200 0) = t203 then (if 1 ≤ (t200.length : Int) then ((P.crew_Of.f k (t200.drop 1)).bind fun t209 => ((P.crew_Of.f k (([t203] : List Int))).bind fun t213 => (if (Go.bits .or .u32 t209 t213) = (Int.tmod a0 64) then ((P.crew_Of.f k (t200.drop 1)).bind fun t218 => ((P.crew_Count.f t218).bind fun t219 => ((P.crew_Count.f a0).bind fun t220 => (if t219 = (wrap64 (t220 - 1)) then (tocsinlaw07_CrewSplits.j0 k a0 a1 t200) else (none))))) else (none)))) else (none)) else (none)) else (none))) else (tocsinlaw07_CrewSplits.j0 k a0 a1 t200)) = some r := H
    have A6 := Aside0.mk A60
    clear A60
    have HC7 := Aside0.mk H
    clear H
    go_enter Tryd.func8, Tryd.ntmps8
    go_upto_if 14 with (first | ((with_reducible refine gate_callee (f := 9) rfl ?_); refine goesL_ (some 7) rfl rfl Tryd.func9 (by kernel_rfl) rfl #[] rfl (by (try simp only [List.map_toArray, List.map_cons, List.map_nil]); first | done | rfl | (simp only [List.length_drop, List.length_take]; rfl)) ?_; (with_reducible refine (tocsinlaw07_fixed.calls k  true _ A3.out ?side1).mono ?_); (case side1 => exact Tabs.below HT.out (by repeat (first | (with_reducible first | exact HB.out | apply below_alloc | apply pw_below_drewN | apply below_drew1) | exact HB.out))); rintro e w8 ⟨rfl, hb⟩; refine ⟨_, rfl, ?_⟩; have n0_ := Aside0.mk (below_step (by repeat (first | (with_reducible first | exact HB.out | apply below_alloc | apply pw_below_drewN | apply below_drew1) | exact HB.out)) hb); clear HB; have HB := n0_; clear n0_; (try clear hb); (try clear hb2); (try clear hk); (try clear hi)) | ((with_reducible refine gate_callee (f := 12) rfl ?_); refine goesL_ (some 10) rfl rfl Tryd.func12 (by kernel_rfl) rfl #[.int .u32 a0] rfl (by (try simp only [List.map_toArray, List.map_cons, List.map_nil]); first | done | rfl | (simp only [List.length_drop, List.length_take]; rfl)) ?_; (with_reducible refine (P.crew_Members.calls k a0 t200 _ A5.out ?side1).mono ?_); (case side1 => exact Tabs.below HT.out (by repeat (first | (with_reducible first | exact HB.out | apply below_alloc | apply pw_below_drewN | apply below_drew1) | exact HB.out))); rintro e w9 ⟨v201, rfl, ho0, hb⟩; refine ⟨_, rfl, ?_⟩; have n0_ := Aside0.mk (Kd.R_lower ho0 (below_size (by repeat (first | (with_reducible first | exact HB.out | apply below_alloc | apply pw_below_drewN | apply below_drew1) | exact HB.out)))); have n1_ := Aside0.mk (below_step (by repeat (first | (with_reducible first | exact HB.out | apply below_alloc | apply pw_below_drewN | apply below_drew1) | exact HB.out)) hb); clear HB; have HO202 := n0_; have HB := n1_; clear n0_ n1_; (try clear hb); (try clear hb2); (try clear hk); (try clear hi); (try clear ho0)) | ((with_reducible refine gate_callee (f := 14) rfl ?_); refine goesL_ (some 12) rfl rfl Tryd.func14 (by kernel_rfl) rfl #[.int .u32 a0] rfl (by (try simp only [List.map_toArray, List.map_cons, List.map_nil]); first | done | rfl | (simp only [List.length_drop, List.length_take]; rfl)) ?_; (with_reducible refine (P.crew_First.calls a0 t203 _ A6.out ?side1).mono ?_); (case side1 => exact Tabs.below HT.out (by repeat (first | (with_reducible first | exact HB.out | apply below_alloc | apply pw_below_drewN | apply below_drew1) | exact HB.out))); rintro e w10 ⟨rfl, hb⟩; refine ⟨_, rfl, ?_⟩; have n0_ := Aside0.mk (Kd.R_below (by (with_reducible repeat (first | apply Kd.R_alloc | apply Kd.R_drewN | apply Kd.R_drew)); exact HO202.out) hb); have n1_ := Aside0.mk (below_step (by repeat (first | (with_reducible first | exact HB.out | apply below_alloc | apply pw_below_drewN | apply below_drew1) | exact HB.out)) hb); clear HO202; clear HB; have HO202 := n0_; have HB := n1_; clear n0_ n1_; (try clear hb); (try clear hb2); (try clear hk); (try clear hi)))
    (try simp only [Act.put, List.setIfInBounds_toArray, List.set_cons_zero, List.set_cons_succ])
    go_cut [] (fun wc => ∃ (kq : Nat), Aside0 (tocsinlaw07_CrewSplits.j0 kq a0 a1 t200 = some r) ∧ Aside0 (kq ≤ k) ∧ Aside0 (Kd.R (Kd.int .i64) 3 wc w.heap.size (fun _ => True) v201 t200) ∧ Aside0 (Below w.heap.size w wc))
    case first =>
      have H := HC7.out
      clear HC7
      by_cases c11 : t203 ≥ 0
      · rw [if_pos c11] at H
        have c11b0 : decide (0 ≤ t203) = true := decide_eq_true c11
        clear c11
        (first | rw [c11b0] | (simp only [i64_w, i32_w]; rw [c11b0]) | skip)
        by_cases c12 : (t200.length : Int) = 0
        · rw [if_pos c12] at H
          exact absurd H (by simp)
        · rw [if_neg c12] at H
          have c12b0 : ((t200.length : Int) == 0) = false := beq_eq_false_iff_ne.mpr c12
          have c12b1 : ((t200.length : Int) != 0) = true := bne_iff_ne.mpr c12
          have c12b2 : ¬ (t200 = []) := fun h_ => c12 (by rw [h_]; rfl)
          by_cases c13 : 0 < (t200.length : Int)
          · rw [if_pos c13] at H
            have c13b0 : decide (0 < (t200.length : Int)) = true := decide_eq_true c13
            have c13b1 : decide (0 < t200.length) = true := decide_eq_true (by omega)
            clear c13
            by_cases c14 : (rd t200 0) = t203
            · rw [if_pos c14] at H
              have c14b0 : ((rd t200 0) == t203) = true := beq_iff_eq.mpr c14
              have c14b1 : ((rd t200 0) != t203) = false := bne_eq_false_iff_eq.mpr c14
              clear c14
              by_cases c15 : 1 ≤ (t200.length : Int)
              · rw [if_pos c15] at H
                have c15b0 := eq_true c15
                have c15b1 : decide (1 ≤ (t200.length : Int)) = true := decide_eq_true c15
                clear c15
                obtain ⟨y205, hy205⟩ : ∃ y_ : List Int, y_ = (t200.drop 1) := ⟨_, rfl⟩
                replace H : ((P.crew_Of.f k y205).bind fun t209 => ((P.crew_Of.f k (([t203] : List Int))).bind fun t213 => (if (Go.bits .or .u32 t209 t213) = (Int.tmod a0 64) then ((P.crew_Of.f k (t200.drop 1)).bind fun t218 => ((P.crew_Count.f t218).bind fun t219 => ((P.crew_Count.f a0).bind fun t220 => (if t219 = (wrap64 (t220 - 1)) then (tocsinlaw07_CrewSplits.j0 k a0 a1 t200) else (none))))) else (none)))) = some r := by first | (rw [hy205]; with_reducible exact H) | (have H2_ := (Option.bind_some _ _).symm.trans H; rw [hy205]; with_reducible exact H2_) | (have H2_ := (Option.bind_some _ _).symm.trans H; with_reducible exact H2_) | with_reducible exact H | (rw [hy205]; exact H) | exact H
                have Ny205 := Aside0.mk hy205
                clear hy205
                replace H := Option.bind_eq_some_iff.mp H
                obtain ⟨t209, A160, H⟩ := H
                replace H : ((P.crew_Of.f k (([t203] : List Int))).bind fun t213 => (if (Go.bits .or .u32 t209 t213) = (Int.tmod a0 64) then ((P.crew_Of.f k (t200.drop 1)).bind fun t218 => ((P.crew_Count.f t218).bind fun t219 => ((P.crew_Count.f a0).bind fun t220 => (if t219 = (wrap64 (t220 - 1)) then (tocsinlaw07_CrewSplits.j0 k a0 a1 t200) else (none))))) else (none))) = some r := H
                have A16 := Aside0.mk A160
                clear A160
                obtain ⟨y210, hy210⟩ : ∃ y_ : List Int, y_ = (([t203] : List Int)) := ⟨_, rfl⟩
                replace H : ((P.crew_Of.f k y210).bind fun t213 => (if (Go.bits .or .u32 t209 t213) = (Int.tmod a0 64) then ((P.crew_Of.f k (t200.drop 1)).bind fun t218 => ((P.crew_Count.f t218).bind fun t219 => ((P.crew_Count.f a0).bind fun t220 => (if t219 = (wrap64 (t220 - 1)) then (tocsinlaw07_CrewSplits.j0 k a0 a1 t200) else (none))))) else (none))) = some r := by first | (rw [hy210]; with_reducible exact H) | (have H2_ := (Option.bind_some _ _).symm.trans H; rw [hy210]; with_reducible exact H2_) | (have H2_ := (Option.bind_some _ _).symm.trans H; with_reducible exact H2_) | with_reducible exact H | (rw [hy210]; exact H) | exact H
                have Ny210 := Aside0.mk hy210
                clear hy210
                replace H := Option.bind_eq_some_iff.mp H
                obtain ⟨t213, A170, H⟩ := H
                replace H : (if (Go.bits .or .u32 t209 t213) = (Int.tmod a0 64) then ((P.crew_Of.f k (t200.drop 1)).bind fun t218 => ((P.crew_Count.f t218).bind fun t219 => ((P.crew_Count.f a0).bind fun t220 => (if t219 = (wrap64 (t220 - 1)) then (tocsinlaw07_CrewSplits.j0 k a0 a1 t200) else (none))))) else (none)) = some r := H
                have A17 := Aside0.mk A170
                clear A170
                by_cases c18 : (Go.bits .or .u32 t209 t213) = (Int.tmod a0 64)
                · rw [if_pos c18] at H
                  have c18b0 : ((Go.bits .or .u32 t209 t213) == (Int.tmod a0 64)) = true := beq_iff_eq.mpr c18
                  have c18b1 : ((Go.bits .or .u32 t209 t213) != (Int.tmod a0 64)) = false := bne_eq_false_iff_eq.mpr c18
                  clear c18
                  have c19b0 := eq_true (of_decide_eq_true (by first | (with_reducible assumption) | assumption) : 1 ≤ (t200.length : Int))
                  obtain ⟨y214, hy214⟩ : ∃ y_ : List Int, y_ = (t200.drop 1) := ⟨_, rfl⟩
                  replace H : ((P.crew_Of.f k y214).bind fun t218 => ((P.crew_Count.f t218).bind fun t219 => ((P.crew_Count.f a0).bind fun t220 => (if t219 = (wrap64 (t220 - 1)) then (tocsinlaw07_CrewSplits.j0 k a0 a1 t200) else (none))))) = some r := by first | (rw [hy214]; with_reducible exact H) | (have H2_ := (Option.bind_some _ _).symm.trans H; rw [hy214]; with_reducible exact H2_) | (have H2_ := (Option.bind_some _ _).symm.trans H; with_reducible exact H2_) | with_reducible exact H | (rw [hy214]; exact H) | exact H
                  have Ny214 := Aside0.mk hy214
                  clear hy214
                  replace H := Option.bind_eq_some_iff.mp H
                  obtain ⟨t218, A200, H⟩ := H
                  obtain rfl : t209 = t218 := Option.some.inj (A16.out.symm.trans (by rw [Ny205.out, ← Ny214.out]; exact A200))
                  replace H : ((P.crew_Count.f t209).bind fun t219 => ((P.crew_Count.f a0).bind fun t220 => (if t219 = (wrap64 (t220 - 1)) then (tocsinlaw07_CrewSplits.j0 k a0 a1 t200) else (none)))) = some r := H
                  have A20 := Aside0.mk A200
                  clear A200
                  replace H := Option.bind_eq_some_iff.mp H
                  obtain ⟨t219, A210, H⟩ := H
                  replace H : ((P.crew_Count.f a0).bind fun t220 => (if t219 = (wrap64 (t220 - 1)) then (tocsinlaw07_CrewSplits.j0 k a0 a1 t200) else (none))) = some r := H
                  have A21 := Aside0.mk A210
                  clear A210
                  replace H := Option.bind_eq_some_iff.mp H
                  obtain ⟨t220, A220, H⟩ := H
                  replace H : (if t219 = (wrap64 (t220 - 1)) then (tocsinlaw07_CrewSplits.j0 k a0 a1 t200) else (none)) = some r := H
                  have A22 := Aside0.mk A220
                  clear A220
                  by_cases c23 : t219 = (wrap64 (t220 - 1))
                  · rw [if_pos c23] at H
                    have c23b0 : (t219 == (wrap64 (t220 - 1))) = true := beq_iff_eq.mpr c23
                    have c23b1 : (t219 != (wrap64 (t220 - 1))) = false := bne_eq_false_iff_eq.mpr c23
                    clear c23
                    have H' := Aside0.mk H
                    clear H
                    obtain ⟨Ao24, co24, eo24⟩ := Kd.R_slice HO202.out
                    subst eo24
                    have p204 : 0 ≤ (0 : Int) := (by omega)
                    have q204 : 0 < (t200.length : Int) := of_decide_eq_true (by first | (with_reducible assumption) | assumption)
                    obtain ⟨ad204, e204, hx204_0⟩ := Kd.at_int (Kd.R_reads' HO202.out).2.2 0 p204 q204
                    cases e204
                    have qi204 : (0 < t200.length) = True := eq_true (by omega)
                    (try rw [show ((0 : Int)).toNat = 0 from rfl] at hx204_0)
                    (try rw [Addr.add_zero'] at hx204_0)
                    replace p204 := eq_true p204
                    replace q204 := eq_true q204
                    have q25 : (1 : Int) ≤ ((t200.length : Int) : Int) := of_decide_eq_true (by first | (with_reducible assumption) | assumption)
                    obtain ⟨i025, hi025, _, hsz25, _⟩ := info_parts info3
                    have hroom25 : t200.length ≤ co24 := (Kd.R_reads' HO202.out).2.1
                    have hC25 : Kd.C (Kd.int .i64) _ (some ad204) t200.length t200 := (Kd.R_reads' HO202.out).2.2
                    have hcut25 := cut_from (P := Tryd.prog) 24 3 .i64 Tryd.underlying24 hi025 1 hsz25 (some ad204) t200.length co24 1 (by omega) q25
                    have hr25 := Kd.C_drop (m := (1 : Int).toNat) (c := co24) hC25 (by omega) hroom25
                    obtain ⟨A25, hA25⟩ : ∃ A1, A1 = (if co24 = (1 : Int).toNat then (some ad204) else ((some ad204) : Option Addr).map (·.add ((1 : Int).toNat * 1))) := ⟨_, rfl⟩
                    obtain ⟨c25, hc25⟩ : ∃ c1, c1 = co24 - (1 : Int).toNat := ⟨_, rfl⟩
                    have hy25 : y205.length = t200.length - (1 : Int).toNat := (by rw [Ny205.out, List.length_drop] <;> omega)
                    rw [show (t200).drop (1 : Int).toNat = y205 from Ny205.out.symm] at hr25
                    replace hr25 : Kd.C (Kd.int .i64) _ A25 y205.length y205 := (by rw [hA25]; exact hr25)
                    rw [← hy25, ← hA25, ← hc25] at hcut25
                    have HR208 := Aside0.mk hr25
                    have HC208 := Aside0.mk (show y205.length ≤ c25 from by rw [hy25, hc25]; exact Nat.sub_le_sub_right hroom25 _)
                    clear hr25 hC25 hroom25 hi025 hsz25 hc25
                    have KY25 := Aside0.mk hy25
                    have KA25 := Aside0.mk hA25
                    clear hy25 hA25
                    have KL25 := Aside0.mk (show 1 ≤ t200.length from by omega)
                    replace q25 := eq_true q25
                    go_wp2_with (first | (go_at_call 17; (with_reducible refine (P.crew_Of.calls k _ _ y205 t209 _ ?side1 ?side2 A16.out).mono ?_); (case side1 => repeat (first | exact (by repeat (first | (with_reducible exact HR208.out) | (with_reducible refine Kd.C_alloc ?_ _) | (with_reducible refine Kd.C_drewN ?_ _) | (with_reducible refine Kd.C_drew ?_) | exact HR208.out)) | (with_reducible refine Kd.C_alloc ?_ _) | (with_reducible refine Kd.C_drewN ?_ _) | (with_reducible refine Kd.C_drew ?_))); (case side2 => exact HC208.out); rintro e w' ⟨rfl, ⟨nd, rfl⟩⟩) | ((with_reducible refine gate_dst (N := 30) rfl ?_); (try (refine gate_guard (by rfl) ?_; dsimp only)); refine Kd.R_lit (Kd.int .i64) _ 3 ?hg (N := 30) ?hd (xs := ([t203] : List Int)) (inner := [.int .i64 t203]) (ok := fun _ => True) (okp := fun _ => True) ?hr ?hp (fun _ hk => hk) trivial (Below.refl _ _) (Nat.le_refl _) (by simp) ?_; (case hd => rfl); (case hg => rfl); (case hr => first | (go_simp; done) | (go_simp; rfl)); (case hp => exact (Reps.one (show Kd.M (Kd.int .i64) _ _ _ t203 [.int .i64 t203] from rfl) (Reps.none _ _))); intro v211 w26 ho27 hb hg_ hnew_; clear hg_ hnew_; (first | rw [← Ny210.out] at ho27 | (simp only [Int.reduceToNat] at ho27; rw [← Ny210.out] at ho27)); have n0_ := Aside0.mk (Kd.R_elder' (by (with_reducible repeat (first | apply Kd.R_alloc | apply Kd.R_drewN | apply Kd.R_drew)); exact HO202.out) (Kd.R_base ho27) hb); have n1_ := Aside0.mk (Kd.R_lower (Kd.R_new' ho27 (Kd.R_lt (by (with_reducible repeat (first | apply Kd.R_alloc | apply Kd.R_drewN | apply Kd.R_drew)); exact HO202.out))) (below_size (by repeat (first | (with_reducible first | exact HB.out | apply below_alloc | apply pw_below_drewN | apply below_drew1) | exact HB.out)))); have n2_ := Aside0.mk (Kd.C_below (by repeat (first | (with_reducible exact HR208.out) | (with_reducible refine Kd.C_alloc ?_ _) | (with_reducible refine Kd.C_drewN ?_ _) | (with_reducible refine Kd.C_drew ?_) | exact HR208.out)) hb); have n3_ := Aside0.mk (below_step (by repeat (first | (with_reducible first | exact HB.out | apply below_alloc | apply pw_below_drewN | apply below_drew1) | exact HB.out)) hb); clear HO202; clear HR208; clear HB; have HO202 := n0_; have HO212 := n1_; have HR208 := n2_; have HB := n3_; clear n0_ n1_ n2_ n3_; clear hb ho27; obtain ⟨Ao28, co28, eo28⟩ := Kd.R_slice HO212.out; subst eo28) | (go_at_call 17; (with_reducible refine (P.crew_Of.calls k _ _ y210 t213 _ ?side1 ?side2 A17.out).mono ?_); (case side1 => repeat (first | exact (Kd.R_reads' HO212.out).2.2 | (with_reducible refine Kd.C_alloc ?_ _) | (with_reducible refine Kd.C_drewN ?_ _) | (with_reducible refine Kd.C_drew ?_))); (case side2 => exact (Kd.R_reads' HO212.out).2.1); rintro e w' ⟨rfl, ⟨nd, rfl⟩⟩; have q29 : (1 : Int) ≤ ((t200.length : Int) : Int) := of_decide_eq_true (by first | (with_reducible assumption) | assumption); obtain ⟨i029, hi029, _, hsz29, _⟩ := info_parts info3; have hroom29 : t200.length ≤ co24 := (Kd.R_reads' HO202.out).2.1; have hC29 : Kd.C (Kd.int .i64) _ (some ad204) t200.length t200 := (Kd.R_reads' HO202.out).2.2; have hcut29 := cut_from (P := Tryd.prog) 24 3 .i64 Tryd.underlying24 hi029 1 hsz29 (some ad204) t200.length co24 1 (by omega) q29; have hr29 := Kd.C_drop (m := (1 : Int).toNat) (c := co24) hC29 (by omega) hroom29; obtain ⟨A29, hA29⟩ : ∃ A1, A1 = (if co24 = (1 : Int).toNat then (some ad204) else ((some ad204) : Option Addr).map (·.add ((1 : Int).toNat * 1))) := ⟨_, rfl⟩; obtain ⟨c29, hc29⟩ : ∃ c1, c1 = co24 - (1 : Int).toNat := ⟨_, rfl⟩; have hy29 : y214.length = t200.length - (1 : Int).toNat := (by rw [Ny214.out, List.length_drop] <;> omega); rw [show (t200).drop (1 : Int).toNat = y214 from Ny214.out.symm] at hr29; replace hr29 : Kd.C (Kd.int .i64) _ A29 y214.length y214 := (by rw [hA29]; exact hr29); rw [← hy29, ← hA29, ← hc29] at hcut29; have HR217 := Aside0.mk hr29; have HC217 := Aside0.mk (show y214.length ≤ c29 from by rw [hy29, hc29]; exact Nat.sub_le_sub_right hroom29 _); clear hr29 hC29 hroom29 hi029 hsz29 hc29; have KY29 := Aside0.mk hy29; have KA29 := Aside0.mk hA29; clear hy29 hA29; have KL29 := Aside0.mk (show 1 ≤ t200.length from by omega); replace q29 := eq_true q29) | (go_at_call 17; (with_reducible refine (P.crew_Of.calls k _ _ y214 t209 _ ?side1 ?side2 A20.out).mono ?_); (case side1 => repeat (first | exact (by repeat (first | (with_reducible exact HR217.out) | (with_reducible refine Kd.C_alloc ?_ _) | (with_reducible refine Kd.C_drewN ?_ _) | (with_reducible refine Kd.C_drew ?_) | exact HR217.out)) | (with_reducible refine Kd.C_alloc ?_ _) | (with_reducible refine Kd.C_drewN ?_ _) | (with_reducible refine Kd.C_drew ?_))); (case side2 => exact HC217.out); rintro e w' ⟨rfl, ⟨nd, rfl⟩⟩) | (go_at_call 13; (with_reducible refine (P.crew_Count.calls t209 t219 _ A21.out).mono ?_); rintro e w' ⟨rfl, ⟨nd, rfl⟩⟩) | (go_at_call 13; (with_reducible refine (P.crew_Count.calls a0 t220 _ A22.out).mono ?_); rintro e w' ⟨rfl, ⟨nd, rfl⟩⟩))
                    all_goals try (exfalso; (try have z0_ := of_decide_eq_true c13b0); (try have z1_ := of_decide_eq_true c13b1); (try have z2_ := of_decide_eq_true c15b1); omega)
                    go_meet
                    case rel => exact ⟨_, H', ⟨by first | omega | exact Nat.le_refl _⟩, ⟨by (with_reducible repeat (first | apply Kd.R_alloc | apply Kd.R_drewN | apply Kd.R_drew)); exact Kd.R_mono HO202.out (fun _ hk => trivial)⟩, ⟨by repeat (first | (with_reducible first | exact HB.out | apply below_alloc | apply pw_below_drewN | apply below_drew1) | exact HB.out)⟩⟩
                  · rw [if_neg c23] at H
                    exact absurd H (by simp)
                · rw [if_neg c18] at H
                  exact absurd H (by simp)
              · rw [if_neg c15] at H
                exact absurd H (by simp)
            · rw [if_neg c14] at H
              exact absurd H (by simp)
          · rw [if_neg c13] at H
            exact absurd H (by simp)
      · rw [if_neg c11] at H
        have c11b0 : decide (0 ≤ t203) = false := decide_eq_false c11
        clear c11
        (first | rw [c11b0] | (simp only [i64_w, i32_w]; rw [c11b0]) | skip)
        have H' := Aside0.mk H
        clear H
        go_wp2
        go_meet
        case rel => exact ⟨_, H', ⟨by first | omega | exact Nat.le_refl _⟩, ⟨by (with_reducible repeat (first | apply Kd.R_alloc | apply Kd.R_drewN | apply Kd.R_drew)); exact HO202.out⟩, ⟨by repeat (first | (with_reducible first | exact HB.out | apply below_alloc | apply pw_below_drewN | apply below_drew1) | exact HB.out)⟩⟩
    case rest =>
      clear HC7
      try clear c1
      try clear c2
      try clear p2
      try clear q2
      try clear hx2
      try clear qi2
      try clear c4
      try clear p6
      try clear c8
      try clear c9
      try clear c11
      try clear c11b0
      try clear c12
      try clear c12b0
      try clear c12b1
      try clear c12b2
      try clear c13
      try clear c13b0
      try clear c13b1
      try clear c14
      try clear c14b0
      try clear c14b1
      try clear c15
      try clear c15b0
      try clear c15b1
      try clear c18
      try clear c18b0
      try clear c18b1
      try clear c19
      try clear c19b0
      try clear p20
      try clear q20
      try clear hx20
      try clear qi20
      try clear c23
      try clear c23b0
      try clear c23b1
      try clear c25
      try clear q25
      try clear c29
      try clear q29
      try clear hx204_0
      try clear p204
      try clear q204
      try clear q25
      try clear q29
      obtain ⟨kq, HA, HJ6, HO_5, HB⟩ := hcut
      cases kq with
      | zero => exact absurd HA.out (by simp [tocsinlaw07_CrewSplits.j0])
      | succ kj6 =>
        have H := HA.out
        clear HA
        simp only [tocsinlaw07_CrewSplits.j0] at H
        obtain ⟨y221, hy221⟩ : ∃ y_ : List Int, y_ = (([] : List Int)) := ⟨_, rfl⟩
        replace H : (if y221.length + t200.length < 17592186044416 then ((some (y221 ++ t200 : List Int)).bind fun y224 => ((P.crew_Members.f kj6 a1).bind fun t227 => (if y224.length + t227.length < 17592186044416 then ((P.crew_Of.f kj6 (y224 ++ t227)).bind fun t233 => (if t233 = (Int.tmod (Go.bits .or .u32 a0 a1) 64) then ((P.crew_Count.f a0).bind fun t234 => ((P.crew_Count.f a1).bind fun t235 => ((P.crew_Count.f (Go.bits .or .u32 a0 a1)).bind fun t236 => ((P.crew_Count.f (Go.bits .and .u32 a0 a1)).bind fun t237 => (some ((wrap64 (t234 + t235)) == (wrap64 (t236 + t237)))))))) else (none))) else (none)))) else (none)) = some r := by first | (rw [hy221]; with_reducible exact H) | (have H2_ := (Option.bind_some _ _).symm.trans H; rw [hy221]; with_reducible exact H2_) | (have H2_ := (Option.bind_some _ _).symm.trans H; with_reducible exact H2_) | with_reducible exact H | (rw [hy221]; exact H) | exact H
        have Ny221 := Aside0.mk hy221
        clear hy221
        by_cases c30 : y221.length + t200.length < 17592186044416
        · rw [if_pos c30] at H
          have LMc30 := Aside0.mk c30
          clear c30
          obtain ⟨y224, hy224⟩ : ∃ y_ : List Int, y_ = (y221 ++ t200) := ⟨_, rfl⟩
          replace H : ((P.crew_Members.f kj6 a1).bind fun t227 => (if y224.length + t227.length < 17592186044416 then ((P.crew_Of.f kj6 (y224 ++ t227)).bind fun t233 => (if t233 = (Int.tmod (Go.bits .or .u32 a0 a1) 64) then ((P.crew_Count.f a0).bind fun t234 => ((P.crew_Count.f a1).bind fun t235 => ((P.crew_Count.f (Go.bits .or .u32 a0 a1)).bind fun t236 => ((P.crew_Count.f (Go.bits .and .u32 a0 a1)).bind fun t237 => (some ((wrap64 (t234 + t235)) == (wrap64 (t236 + t237)))))))) else (none))) else (none))) = some r := by first | (rw [hy224]; with_reducible exact H) | (have H2_ := (Option.bind_some _ _).symm.trans H; rw [hy224]; with_reducible exact H2_) | (have H2_ := (Option.bind_some _ _).symm.trans H; with_reducible exact H2_) | with_reducible exact H | (rw [hy224]; exact H) | exact H
          have Ny224 := Aside0.mk hy224
          clear hy224
          replace H := Option.bind_eq_some_iff.mp H
          obtain ⟨t227, A310, H⟩ := H
          replace H : (if y224.length + t227.length < 17592186044416 then ((P.crew_Of.f kj6 (y224 ++ t227)).bind fun t233 => (if t233 = (Int.tmod (Go.bits .or .u32 a0 a1) 64) then ((P.crew_Count.f a0).bind fun t234 => ((P.crew_Count.f a1).bind fun t235 => ((P.crew_Count.f (Go.bits .or .u32 a0 a1)).bind fun t236 => ((P.crew_Count.f (Go.bits .and .u32 a0 a1)).bind fun t237 => (some ((wrap64 (t234 + t235)) == (wrap64 (t236 + t237)))))))) else (none))) else (none)) = some r := H
          have A31 := Aside0.mk A310
          clear A310
          by_cases c32 : y224.length + t227.length < 17592186044416
          · rw [if_pos c32] at H
            have LMc32 := Aside0.mk c32
            clear c32
            obtain ⟨y230, hy230⟩ : ∃ y_ : List Int, y_ = (y224 ++ t227) := ⟨_, rfl⟩
            replace H : ((P.crew_Of.f kj6 y230).bind fun t233 => (if t233 = (Int.tmod (Go.bits .or .u32 a0 a1) 64) then ((P.crew_Count.f a0).bind fun t234 => ((P.crew_Count.f a1).bind fun t235 => ((P.crew_Count.f (Go.bits .or .u32 a0 a1)).bind fun t236 => ((P.crew_Count.f (Go.bits .and .u32 a0 a1)).bind fun t237 => (some ((wrap64 (t234 + t235)) == (wrap64 (t236 + t237)))))))) else (none))) = some r := by first | (rw [hy230]; with_reducible exact H) | (have H2_ := (Option.bind_some _ _).symm.trans H; rw [hy230]; with_reducible exact H2_) | (have H2_ := (Option.bind_some _ _).symm.trans H; with_reducible exact H2_) | with_reducible exact H | (rw [hy230]; exact H) | exact H
            have Ny230 := Aside0.mk hy230
            clear hy230
            replace H := Option.bind_eq_some_iff.mp H
            obtain ⟨t233, A330, H⟩ := H
            replace H : (if t233 = (Int.tmod (Go.bits .or .u32 a0 a1) 64) then ((P.crew_Count.f a0).bind fun t234 => ((P.crew_Count.f a1).bind fun t235 => ((P.crew_Count.f (Go.bits .or .u32 a0 a1)).bind fun t236 => ((P.crew_Count.f (Go.bits .and .u32 a0 a1)).bind fun t237 => (some ((wrap64 (t234 + t235)) == (wrap64 (t236 + t237)))))))) else (none)) = some r := H
            have A33 := Aside0.mk A330
            clear A330
            by_cases c34 : t233 = (Int.tmod (Go.bits .or .u32 a0 a1) 64)
            · rw [if_pos c34] at H
              have c34b0 : (t233 == (Int.tmod (Go.bits .or .u32 a0 a1) 64)) = true := beq_iff_eq.mpr c34
              have c34b1 : (t233 != (Int.tmod (Go.bits .or .u32 a0 a1) 64)) = false := bne_eq_false_iff_eq.mpr c34
              clear c34
              replace H := Option.bind_eq_some_iff.mp H
              obtain ⟨t234, A350, H⟩ := H
              replace H : ((P.crew_Count.f a1).bind fun t235 => ((P.crew_Count.f (Go.bits .or .u32 a0 a1)).bind fun t236 => ((P.crew_Count.f (Go.bits .and .u32 a0 a1)).bind fun t237 => (some ((wrap64 (t234 + t235)) == (wrap64 (t236 + t237))))))) = some r := H
              have A35 := Aside0.mk A350
              clear A350
              replace H := Option.bind_eq_some_iff.mp H
              obtain ⟨t235, A360, H⟩ := H
              replace H : ((P.crew_Count.f (Go.bits .or .u32 a0 a1)).bind fun t236 => ((P.crew_Count.f (Go.bits .and .u32 a0 a1)).bind fun t237 => (some ((wrap64 (t234 + t235)) == (wrap64 (t236 + t237)))))) = some r := H
              have A36 := Aside0.mk A360
              clear A360
              replace H := Option.bind_eq_some_iff.mp H
              obtain ⟨t236, A370, H⟩ := H
              replace H : ((P.crew_Count.f (Go.bits .and .u32 a0 a1)).bind fun t237 => (some ((wrap64 (t234 + t235)) == (wrap64 (t236 + t237))))) = some r := H
              have A37 := Aside0.mk A370
              clear A370
              replace H := Option.bind_eq_some_iff.mp H
              obtain ⟨t237, A380, H⟩ := H
              replace H : (some ((wrap64 (t234 + t235)) == (wrap64 (t236 + t237)))) = some r := H
              have A38 := Aside0.mk A380
              clear A380
              obtain rfl := Option.some.inj H
              go_wp2_with (first | ((with_reducible refine gate_dst (N := 47) rfl ?_); (try (refine gate_guard (by rfl) ?_; dsimp only)); refine Kd.R_lit (Kd.int .i64) _ 3 ?hg (N := 47) ?hd (xs := ([] : List Int)) (inner := []) (ok := fun _ => True) (okp := fun _ => True) ?hr ?hp (fun _ hk => hk) trivial (Below.refl _ _) (Nat.le_refl _) (by simp) ?_; (case hd => rfl); (case hg => rfl); (case hr => first | (go_simp; done) | (go_simp; rfl)); (case hp => exact (Reps.none _ _)); intro v222 w39 ho40 hb hg_ hnew_; clear hg_ hnew_; (first | rw [← Ny221.out] at ho40 | (simp only [Int.reduceToNat] at ho40; rw [← Ny221.out] at ho40)); have n0_ := Aside0.mk (Kd.R_elder' (by (with_reducible repeat (first | apply Kd.R_alloc | apply Kd.R_drewN | apply Kd.R_drew)); exact HO_5.out) (Kd.R_base ho40) hb); have n1_ := Aside0.mk (Kd.R_lower (Kd.R_new' ho40 (Kd.R_lt (by (with_reducible repeat (first | apply Kd.R_alloc | apply Kd.R_drewN | apply Kd.R_drew)); exact HO_5.out))) (below_size (by repeat (first | (with_reducible first | exact HB.out | apply below_alloc | apply pw_below_drewN | apply below_drew1) | exact HB.out)))); have n2_ := Aside0.mk (below_step (by repeat (first | (with_reducible first | exact HB.out | apply below_alloc | apply pw_below_drewN | apply below_drew1) | exact HB.out)) hb); clear HO_5; clear HB; have HO_5 := n0_; have HO223 := n1_; have HB := n2_; clear n0_ n1_ n2_; clear hb ho40; obtain ⟨Ao42, co42, eo42⟩ := Kd.R_slice HO_5.out; subst eo42) | ((with_reducible refine gate_builtin (b := .append) (xs := #[.tmp 47, .tmp 48]) rfl ?_); (try (refine gate_guard (by rfl) ?_; dsimp only)); at_builtin; refine Kd.R_append_rows (Kd.int .i64) (w0 := w) w.heap.size rfl (.tmp 47) (.tmp 48) 24 3 (.int .i64 0) 8 rfl Tryd.underlying24 info3 rfl (by decide) (by omega) v222 y221 t200 _ _ _ (fun k_ => some k_ ≠ (.slice Ao42 t200.length co42 : Value).ownBlock) (fun _ => False) rfl rfl ?aO ?aR (fun _ _ h => h) (fun _ h => h.elim) ?aF ?aB ?aS ?aL ?_; (case aR => repeat (first | exact (Kd.R_reads' HO_5.out).2.2 | (with_reducible refine Kd.C_alloc ?_ _) | (with_reducible refine Kd.C_drewN ?_ _) | (with_reducible refine Kd.C_drew ?_))); (case aB => exact (by repeat (first | (with_reducible first | exact HB.out | apply below_alloc | apply pw_below_drewN | apply below_drew1) | exact HB.out))); (case aF => exact (fun k_ hk => Kd.fresh' (Kd.R_lt (by (with_reducible repeat (first | apply Kd.R_alloc | apply Kd.R_drewN | apply Kd.R_drew)); exact HO_5.out)) k_ hk)); (case aO => exact (by (with_reducible repeat (first | apply Kd.R_alloc | apply Kd.R_drewN | apply Kd.R_drew)); exact Kd.R_mono HO223.out (fun _ hk => hk.2))); (case aS => exact (below_size (by repeat (first | (with_reducible first | exact HB.out | apply below_alloc | apply pw_below_drewN | apply below_drew1) | exact HB.out)))); (case aL => have := LMc30.out; omega); intro v225 w41 ho hb hg hat; rw [← Ny224.out] at ho; have n0_ := Aside0.mk (Kd.R_after (ok := (fun _ => True)) (by (with_reducible repeat (first | apply Kd.R_alloc | apply Kd.R_drewN | apply Kd.R_drew)); exact HO_5.out) hg hat); have n1_ := Aside0.mk (hb); have n2_ := Aside0.mk (ho); clear HO_5; clear HB; clear HO223; have HO_5 := n0_; have HB := n1_; have HO226 := n2_; clear n0_ n1_ n2_; clear ho hb hg hat) | ((with_reducible refine gate_callee (f := 12) rfl ?_); refine goesL_ (some 51) rfl rfl Tryd.func12 (by kernel_rfl) rfl #[.int .u32 a1] rfl (by (try simp only [List.map_toArray, List.map_cons, List.map_nil]); first | done | rfl | (simp only [List.length_drop, List.length_take]; rfl)) ?_; (with_reducible refine (P.crew_Members.calls kj6 a1 t227 _ A31.out ?side1).mono ?_); (case side1 => exact Tabs.below HT.out (by repeat (first | (with_reducible first | exact HB.out | apply below_alloc | apply pw_below_drewN | apply below_drew1) | exact HB.out))); rintro e w43 ⟨v228, rfl, ho0, hb⟩; refine ⟨_, rfl, ?_⟩; have n0_ := Aside0.mk (Kd.R_elder' (by (with_reducible repeat (first | apply Kd.R_alloc | apply Kd.R_drewN | apply Kd.R_drew)); exact HO_5.out) (Kd.R_base ho0) hb); have n1_ := Aside0.mk (Kd.R_elder' (by (with_reducible repeat (first | apply Kd.R_alloc | apply Kd.R_drewN | apply Kd.R_drew)); exact HO226.out) (Kd.R_base ho0) hb); have n2_ := Aside0.mk (Kd.R_lower (Kd.R_new' (Kd.R_new' ho0 (Kd.R_lt (by (with_reducible repeat (first | apply Kd.R_alloc | apply Kd.R_drewN | apply Kd.R_drew)); exact HO_5.out))) (Kd.R_lt (by (with_reducible repeat (first | apply Kd.R_alloc | apply Kd.R_drewN | apply Kd.R_drew)); exact HO226.out))) (below_size (by repeat (first | (with_reducible first | exact HB.out | apply below_alloc | apply pw_below_drewN | apply below_drew1) | exact HB.out)))); have n3_ := Aside0.mk (below_step (by repeat (first | (with_reducible first | exact HB.out | apply below_alloc | apply pw_below_drewN | apply below_drew1) | exact HB.out)) hb); clear HO_5; clear HO226; clear HB; have HO_5 := n0_; have HO226 := n1_; have HO229 := n2_; have HB := n3_; clear n0_ n1_ n2_ n3_; (try clear hb); (try clear hb2); (try clear hk); (try clear hi); (try clear ho0); obtain ⟨Ao45, co45, eo45⟩ := Kd.R_slice HO229.out; subst eo45) | ((with_reducible refine gate_builtin (b := .append) (xs := #[.tmp 49, .tmp 51]) rfl ?_); (try (refine gate_guard (by rfl) ?_; dsimp only)); at_builtin; refine Kd.R_append_rows (Kd.int .i64) (w0 := w) w.heap.size rfl (.tmp 49) (.tmp 51) 24 3 (.int .i64 0) 8 rfl Tryd.underlying24 info3 rfl (by decide) (by omega) v225 y224 t227 _ _ _ (fun k_ => some k_ ≠ (.slice Ao42 t200.length co42 : Value).ownBlock ∧ some k_ ≠ (.slice Ao45 t227.length co45 : Value).ownBlock) (fun _ => False) rfl rfl ?aO ?aR (fun _ _ h => h) (fun _ h => h.elim) ?aF ?aB ?aS ?aL ?_; (case aR => repeat (first | exact (Kd.R_reads' HO229.out).2.2 | (with_reducible refine Kd.C_alloc ?_ _) | (with_reducible refine Kd.C_drewN ?_ _) | (with_reducible refine Kd.C_drew ?_))); (case aB => exact (by repeat (first | (with_reducible first | exact HB.out | apply below_alloc | apply pw_below_drewN | apply below_drew1) | exact HB.out))); (case aF => exact (fun k_ hk => ⟨Kd.fresh' (Kd.R_lt (by (with_reducible repeat (first | apply Kd.R_alloc | apply Kd.R_drewN | apply Kd.R_drew)); exact HO_5.out)) k_ hk, Kd.fresh' (Kd.R_lt (by (with_reducible repeat (first | apply Kd.R_alloc | apply Kd.R_drewN | apply Kd.R_drew)); exact HO229.out)) k_ hk⟩)); (case aO => exact (by (with_reducible repeat (first | apply Kd.R_alloc | apply Kd.R_drewN | apply Kd.R_drew)); exact HO226.out)); (case aS => exact (below_size (by repeat (first | (with_reducible first | exact HB.out | apply below_alloc | apply pw_below_drewN | apply below_drew1) | exact HB.out)))); (case aL => have := LMc32.out; omega); intro v231 w44 ho hb hg hat; rw [← Ny230.out] at ho; have n0_ := Aside0.mk (Kd.R_after (ok := (fun k_ => some k_ ≠ (.slice Ao45 t227.length co45 : Value).ownBlock)) (by (with_reducible repeat (first | apply Kd.R_alloc | apply Kd.R_drewN | apply Kd.R_drew)); exact Kd.R_mono HO_5.out (fun _ hk => ⟨hk.2, hk.1.2⟩)) hg hat); have n1_ := Aside0.mk (Kd.R_after (ok := (fun k_ => some k_ ≠ (.slice Ao42 t200.length co42 : Value).ownBlock)) (by (with_reducible repeat (first | apply Kd.R_alloc | apply Kd.R_drewN | apply Kd.R_drew)); exact Kd.R_mono HO229.out (fun _ hk => ⟨hk.1.2, hk.2⟩)) hg hat); have n2_ := Aside0.mk (hb); have n3_ := Aside0.mk (ho); clear HO_5; clear HO229; clear HB; clear HO226; have HO_5 := n0_; have HO229 := n1_; have HB := n2_; have HO232 := n3_; clear n0_ n1_ n2_ n3_; clear ho hb hg hat; obtain ⟨Ao46, co46, eo46⟩ := Kd.R_slice HO232.out; subst eo46) | ((with_reducible refine gate_callee (f := 17) rfl ?_); refine goesL_ (some 53) rfl rfl Tryd.func17 (by kernel_rfl) rfl #[.slice Ao46 y230.length co46] rfl (by (try simp only [List.map_toArray, List.map_cons, List.map_nil]); first | done | rfl | (simp only [List.length_drop, List.length_take]; rfl)) ?_; (with_reducible refine (P.crew_Of.calls kj6 _ _ y230 t233 _ ?side1 ?side2 A33.out).mono ?_); (case side1 => repeat (first | exact (Kd.R_reads' HO232.out).2.2 | (with_reducible refine Kd.C_alloc ?_ _) | (with_reducible refine Kd.C_drewN ?_ _) | (with_reducible refine Kd.C_drew ?_))); (case side2 => exact (Kd.R_reads' HO232.out).2.1); rintro e w' ⟨rfl, ⟨nd, rfl⟩⟩; refine ⟨_, rfl, ?_⟩) | (go_at_call 13; (with_reducible refine (P.crew_Count.calls a0 t234 _ A35.out).mono ?_); rintro e w' ⟨rfl, ⟨nd, rfl⟩⟩) | (go_at_call 13; (with_reducible refine (P.crew_Count.calls a1 t235 _ A36.out).mono ?_); rintro e w' ⟨rfl, ⟨nd, rfl⟩⟩) | (go_at_call 13; (with_reducible refine (P.crew_Count.calls (Go.bits .or .u32 a0 a1) t236 _ A37.out).mono ?_); rintro e w' ⟨rfl, ⟨nd, rfl⟩⟩) | (go_at_call 13; (with_reducible refine (P.crew_Count.calls (Go.bits .and .u32 a0 a1) t237 _ A38.out).mono ?_); rintro e w' ⟨rfl, ⟨nd, rfl⟩⟩))
              go_ret
              exact ⟨by first | rfl | (simp [errW_none, errW_some] <;> rfl) | (simp [*, errW_none, errW_some] <;> rfl), by repeat (first | (with_reducible first | exact HB.out | apply below_alloc | apply pw_below_drewN | apply below_drew1) | exact HB.out)⟩
            · rw [if_neg c34] at H
              exact absurd H (by simp)
          · rw [if_neg c32] at H
            exact absurd H (by simp)
        · rw [if_neg c30] at H
          exact absurd H (by simp)
  · replace c4 := Bool.eq_false_iff.mpr c4
    subst c4
    have H1 : (none) = some r := by rw [if_neg (show ¬ (false = true) by decide)] at H; exact H
    clear H
    have H := H1
    clear H1
    exact absurd H (by simp)

/-- THE ONE PURE STATEMENT of tocsinlaw07_CrewSplits: yours. -/
def tocsinlaw07_CrewSplits.Pure : Prop := ∀ (a0 : Int) (a1 : Int), (Lit.int .u32 a0).wf = true → (Lit.int .u32 a1).wf = true → ∃ k, tocsinlaw07_CrewSplits.f k a0 a1 = some true
theorem tocsinlaw07_CrewSplits.walk (P : tocsinlaw07_CrewSplits.Pure) (a0 : Int) (a1 : Int) (w : World) (w0 : (Lit.int .u32 a0).wf = true) (w1 : (Lit.int .u32 a1).wf = true) (hT : Tabs w) :
    Calls Tryd.prog 8 #[.int .u32 a0, .int .u32 a1] w fun e w' => e = .returned (.bool true) ∧ Below w.heap.size w w' := by
  obtain ⟨k, h⟩ := P a0 a1 w0 w1
  refine (tocsinlaw07_CrewSplits.calls k a0 a1 true w h hT).mono ?_
  rintro e w' ⟨rfl, hd⟩
  exact ⟨rfl, hd⟩

end Go.Proofs.YtlaikchebojidaaDoor.T
