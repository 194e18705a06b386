/- A part of the proof of the statement PlanFrees: words, contracts of functions that it reaches, and what they compute. No condition. -/
import Derived.Test.YtbmldeikjfecfaaI01
import Derived.Test.YtbmldeikjfecfaaI04
import Derived.Test.YtbmldeikjfecfaaI15
import Derived.Test.YtbmldeikjfecfaaI30
import Derived.Test.YtbmldeikjfecfaaI44
import Derived.Test.YtbmldeikjfecfaaI17
import Derived.Test.YtbmldeikjfecfaaI18
import Derived.Test.YtbmldeikjfecfaaI28
import Derived.Test.YtbmldeikjfecfaaI32
import Derived.Test.YtbmldeikjfecfaaI33
import Derived.Test.YtbmldeikjfecfaaI12
set_option linter.unusedVariables false
set_option linter.unusedSimpArgs false
section
namespace Go.Proofs.Ytbmldeikjfecfaa.T
open Go.RowKit Go.Proofs.YtbmldeikjfecfaaW.PrintWords Go.Proofs.YtbmldeikjfecfaaW.PrintLast Go.Proofs.YtbmldeikjfecfaaW.PrintMore
attribute [local go_sem] max2_int min2_int max_two min_two max_three min_three max_four min_four
attribute [local go_sem] at34_0 at34_1 at34_2 at42_0 at42_1 at42_2 at42_3 at47_0 at47_1 at47_2 at47_3 at47_4
def tocsinlaw15_PlanNext.j0 : Nat → Int → Int → Bool → Int → Int → Int → Int → Int → List (List Int) → List (S40) → List (S63) → Int → Option (Bool)
 | 0, _, _, _, _, _, _, _, _, _, _, _, _ => none
 | k + 1, x1, x7, x54, x317000, x317001, x317002, x317003, x317004, x317005, x317006, x317007, x317008 => if x54 = true then (none) else (if x7 ≥ 1125899906842624 then (some true) else ((plan_Send.f x317000 x317001 x317002 x317003 x317004 x317005 x317006 x317007 x317008 x1 x7).bind fun bt322 => ((plan_Send.f x317000 x317001 x317002 x317003 x317004 x317005 x317006 x317007 x317008 x1 (wrap64 (x7 + 1))).bind fun bt324 => (if bt322.2 = true then (if bt324.2 = true then (if bt322.1 = x7 then (some (bt324.1 == (wrap64 (x7 + x317001)))) else (none)) else (none)) else (none)))))
def tocsinlaw15_PlanNext.f (k : Nat) (a0_0 : Int) (a0_1 : Int) (a0_2 : Int) (a0_3 : Int) (a0_4 : Int) (l0_5 : List (List Int)) (l0_6 : List (S40)) (l0_7 : List (S63)) (a0_8 : Int) (a1 : Int) (a2 : Int) : Option (Bool) := (tocsinlaw15_fixed.f k).bind fun t317 => (if t317 = true then ((plan_Send.f a0_0 a0_1 a0_2 a0_3 a0_4 l0_5 l0_6 l0_7 a0_8 a1 a2).bind fun bt318 => (if bt318.2 = true then (if bt318.1 < a2 then (tocsinlaw15_PlanNext.j0 k a1 bt318.1 true a0_0 a0_1 a0_2 a0_3 a0_4 l0_5 l0_6 l0_7 a0_8) else (if bt318.1 ≥ (wrap64 (a2 + a0_1)) then (tocsinlaw15_PlanNext.j0 k a1 bt318.1 true a0_0 a0_1 a0_2 a0_3 a0_4 l0_5 l0_6 l0_7 a0_8) else (if a0_1 = 0 then (none) else (if 0 ≤ a1 then (if a1 < (l0_6.length : Int) then (if (Int.tmod bt318.1 a0_1) = ((rd_T40 l0_6 a1).f2) then ((tocsinref08_Check.f k a0_0 a0_1 a0_2 a0_3 a0_4 l0_5 l0_6 l0_7 a0_8).bind fun t321 => (tocsinlaw15_PlanNext.j0 k a1 bt318.1 (t321 != 0) a0_0 a0_1 a0_2 a0_3 a0_4 l0_5 l0_6 l0_7 a0_8)) else (tocsinlaw15_PlanNext.j0 k a1 bt318.1 true a0_0 a0_1 a0_2 a0_3 a0_4 l0_5 l0_6 l0_7 a0_8)) else (none)) else (none))))) else (some (bt318.1 == 0)))) else (none))
end Go.Proofs.Ytbmldeikjfecfaa.T
end
section
namespace Go.Proofs.Ytbmldeikjfecfaa.Hd
open Go.RowKit Go.Proofs.Ytbmldeikjfecfaa.T Go.Proofs.YtbmldeikjfecfaaW.PrintWords Go.Proofs.YtbmldeikjfecfaaW.PrintLast Go.Proofs.YtbmldeikjfecfaaW.PrintMore
section
variable {hosts cyc dly win prec : Int} {A5 : Option Addr} {c5 : Nat} {ds : List (List Int)} {A6 : Option Addr} {c6 : Nat} {es : List S40} {A7 : Option Addr} {c7 : Nat} {ls : List S63} {q : Int}
abbrev goodV (hosts cyc dly win prec : Int) (ds : List (List Int)) (es : List S40) (ls : List S63) (q t : Int) : Bool := decide (0 ≤ t ∧ t ≤ 1125899906842624) && (checkV hosts cyc dly win prec ds es ls q == 0)
theorem good_f (hs : sane hosts cyc dly win prec ds es ls q) (t : Int) : plan_good.f hosts cyc dly win prec ds es ls q t = some (goodV hosts cyc dly win prec ds es ls q t) := by
  have hc : Hd.conf_Check.f hosts cyc dly win prec ds es ls q = some (checkV hosts cyc dly win prec ds es ls q) := by unfold Hd.conf_Check.f; rw [if_pos hs]
  unfold plan_good.f goodV
  by_cases c1 : t ≥ 0
  · rw [if_pos c1]
    by_cases c2 : t ≤ 1125899906842624
    · rw [if_pos c2, hc, Option.bind_some, decide_eq_true (show 0 ≤ t ∧ t ≤ 1125899906842624 from ⟨c1, c2⟩), Bool.true_and]
    · rw [if_neg c2, decide_eq_false (by omega)]; rfl
  · rw [if_neg c1, decide_eq_false (by omega)]; rfl
theorem refGood_ev (hs : sane hosts cyc dly win prec ds es ls q) (t : Int) : Ev (fun k => tocsinref15_Good.f k hosts cyc dly win prec ds es ls q t) (goodV hosts cyc dly win prec ds es ls q t) := by
  unfold tocsinref15_Good.f goodV
  by_cases c1 : t ≥ 0
  · simp only [if_pos c1]
    by_cases c2 : t ≤ 1125899906842624
    · simp only [if_pos c2]
      rw [decide_eq_true (show 0 ≤ t ∧ t ≤ 1125899906842624 from ⟨c1, c2⟩), Bool.true_and]
      exact Ev.bind (refCheck_ev hs) (Ev.now _)
    · simp only [if_neg c2]; rw [decide_eq_false (by omega)]; exact Ev.now _
  · simp only [if_neg c1]; rw [decide_eq_false (by omega)]; exact Ev.now _
theorem good_iff {t : Int} (h : goodV hosts cyc dly win prec ds es ls q t = true) : (0 ≤ t ∧ t ≤ 1125899906842624) ∧ Okc hosts cyc dly win prec ds es ls q := by
  unfold goodV at h
  rw [Bool.and_eq_true, decide_eq_true_eq, beq_iff_eq] at h
  exact ⟨h.1, zero_ok h.2⟩
theorem split_t {t cyc : Int} (h : 0 ≤ t) (hc : 1 ≤ cyc) : 0 ≤ t / cyc ∧ t / cyc ≤ t ∧ 0 ≤ t % cyc ∧ t % cyc < cyc ∧ t / cyc * cyc + t % cyc = t ∧ Int.tdiv t cyc = t / cyc ∧ Int.tmod t cyc = t % cyc := by
  refine ⟨Int.ediv_nonneg h (by omega), Int.ediv_le_self _ h, Int.emod_nonneg _ (by omega), Int.emod_lt_of_pos _ (by omega), ?_, Int.tdiv_eq_ediv_of_nonneg h, Int.tmod_eq_emod_of_nonneg h⟩
  have := Int.mul_ediv_add_emod t cyc
  rw [Int.mul_comm] at this
  exact this
abbrev Ent (hosts cyc dly win prec : Int) (ds : List (List Int)) (es : List S40) (ls : List S63) (q i t : Int) : Prop := goodV hosts cyc dly win prec ds es ls q t = true ∧ 0 ≤ i ∧ i < (es.length : Int)
theorem of_ok (hs : sane hosts cyc dly win prec ds es ls q) {i t : Int} (h : Ent hosts cyc dly win prec ds es ls q i t) : plan_of.f hosts cyc dly win prec ds es ls q i t = some ((rd_T40 es i).f0, (rd_T40 es i).f1, (rd_T40 es i).f2, (rd_T40 es i).f3, t / cyc, t % cyc, true) := by
  obtain ⟨hg, h0, h1⟩ := h
  obtain ⟨ht, K⟩ := good_iff hg
  obtain ⟨s1, s2, s3, s4, s5, s6, s7⟩ := split_t ht.1 K.c.1
  have hc := K.c
  unfold plan_of.f
  rw [good_f hs, Option.bind_some, if_pos hg, if_neg (by omega), if_neg (by omega), if_pos h0, if_pos h1, if_neg (by omega), s6, s7, w64 (by omega)]
theorem of_no (hs : sane hosts cyc dly win prec ds es ls q) {i t : Int} (h : ¬ Ent hosts cyc dly win prec ds es ls q i t) : plan_of.f hosts cyc dly win prec ds es ls q i t = some (0, 0, 0, 0, 0, 0, false) := by
  unfold plan_of.f
  rw [good_f hs, Option.bind_some]
  cases hg : goodV hosts cyc dly win prec ds es ls q t with
  | false => rw [if_neg (by decide)]
  | true =>
    rw [if_pos rfl]
    by_cases c1 : i < 0
    · rw [if_pos c1]
    · rw [if_neg c1, if_pos (by
        by_cases c2 : i ≥ (es.length : Int)
        · exact c2
        · exact absurd ⟨hg, by omega, by omega⟩ h)]
theorem rd_mem {i : Int} (h0 : 0 ≤ i) (h1 : i < (es.length : Int)) : rd_T40 es i ∈ es := getE (l := es) (i := i.toNat) (by omega)
def sendV (cyc p t : Int) : Int := if t % cyc > p then t / cyc * cyc + cyc + p else t / cyc * cyc + p
theorem send_ok (hs : sane hosts cyc dly win prec ds es ls q) {i t : Int} (h : Ent hosts cyc dly win prec ds es ls q i t) : plan_Send.f hosts cyc dly win prec ds es ls q i t = some (sendV cyc (rd_T40 es i).f2 t, true) := by
  have hh := h
  obtain ⟨hg, h0, h1⟩ := h
  obtain ⟨ht, K⟩ := good_iff hg
  obtain ⟨s1, s2, s3, s4, s5, s6, s7⟩ := split_t ht.1 K.c.1
  have hc := K.c
  have hf := K.fwd (rd_mem h0 h1)
  have hf2 := K.times (rd_mem h0 h1)
  have hx : (t / cyc + 1) * cyc = t / cyc * cyc + cyc := by rw [Int.add_mul, Int.one_mul]
  unfold plan_Send.f sendV
  rw [of_ok hs hh, Option.bind_some]
  simp only [if_true]
  generalize t / cyc * cyc = X at *
  by_cases c : t % cyc > (rd_T40 es i).f2
  · rw [if_pos c, if_pos c, w64 (x := t / cyc + 1) (by omega), hx, w64 (x := X + cyc) (by omega), w64 (by omega)]
  · rw [if_neg c, if_neg c, w64 (x := X) (by omega), w64 (by omega)]
theorem send_no (hs : sane hosts cyc dly win prec ds es ls q) {i t : Int} (h : ¬ Ent hosts cyc dly win prec ds es ls q i t) : plan_Send.f hosts cyc dly win prec ds es ls q i t = some (0, false) := by
  unfold plan_Send.f
  rw [of_no hs h, Option.bind_some, if_neg (by decide)]
theorem fixed_sixty : T.tocsinlaw15_fixed.f 60 = some true := by decide +kernel
theorem fixed_ev : Ev (fun k => T.tocsinlaw15_fixed.f k) true := Ev.of (T.tocsinlaw15_fixed.mono) fixed_sixty
theorem next (hs : sane hosts cyc dly win prec ds es ls q) (i t : Int) (ht : i64 t) : ∃ k, tocsinlaw15_PlanNext.f k hosts cyc dly win prec ds es ls q i t = some true := by
  refine Ev.rounds (g := fun k => tocsinlaw15_PlanNext.f k hosts cyc dly win prec ds es ls q i t) (r := true) ?_
  unfold tocsinlaw15_PlanNext.f
  refine Ev.bind fixed_ev ?_
  simp only [if_true]
  by_cases h : Ent hosts cyc dly win prec ds es ls q i t
  · have hh := h
    obtain ⟨hg, h0, h1⟩ := h
    obtain ⟨ht', K⟩ := good_iff hg
    have hck : checkV hosts cyc dly win prec ds es ls q = 0 := by unfold goodV at hg; rw [Bool.and_eq_true, beq_iff_eq] at hg; exact hg.2
    obtain ⟨s1, s2, s3, s4, s5, s6, s7⟩ := split_t ht'.1 K.c.1
    have hc := K.c
    have hf := K.fwd (rd_mem h0 h1)
    have hf2 := K.times (rd_mem h0 h1)
    obtain ⟨p, hp⟩ : ∃ p, p = (rd_T40 es i).f2 := ⟨_, rfl⟩
    obtain ⟨a, ha⟩ : ∃ a, a = sendV cyc p t := ⟨_, rfl⟩
    have facts : ∃ m, a = m * cyc + p ∧ t ≤ a ∧ a < t + cyc ∧ 0 ≤ m := by
      rw [ha]
      unfold sendV
      by_cases c : t % cyc > p
      · rw [if_pos c]
        refine ⟨t / cyc + 1, by rw [Int.add_mul, Int.one_mul], ?_, ?_, by omega⟩ <;> (generalize t / cyc * cyc = X at *; omega)
      · rw [if_neg c]
        refine ⟨t / cyc, rfl, ?_, ?_, by omega⟩ <;> (generalize t / cyc * cyc = X at *; omega)
    obtain ⟨m, hm, hta, hat, hm0⟩ := facts
    have hpp : 0 ≤ p ∧ p < cyc := by omega
    have hmod : a % cyc = p := by rw [hm, Int.mul_comm, Int.mul_add_emod_self_left, Int.emod_eq_of_lt hpp.1 hpp.2]
    have hdiv : a / cyc = m := by rw [hm, Int.mul_comm, Int.mul_add_ediv_left _ _ (by omega), Int.ediv_eq_zero_of_lt hpp.1 hpp.2, Int.add_zero]
    have htm : Int.tmod a cyc = p := by rw [Int.tmod_eq_emod_of_nonneg (by omega), hmod]
    rw [send_ok hs hh, ← hp, ← ha]
    simp only [Option.bind_some, if_true, if_neg (show ¬ a < t by omega), if_neg (show ¬ a ≥ wrap64 (t + cyc) by rw [w64 (by omega)]; omega), if_neg (show ¬ cyc = 0 by omega), if_pos h0, if_pos h1]
    simp only [if_pos htm]
    refine Ev.bind (refCheck_ev hs) ?_
    rw [hck]
    by_cases hbig : a ≥ 1125899906842624
    · exact Ev.step (f := fun _ => some true) (fun k => by rw [tocsinlaw15_PlanNext.j0, if_neg (by decide), if_pos hbig]) (Ev.now _)
    · have g2 : goodV hosts cyc dly win prec ds es ls q a = true := by unfold goodV; rw [hck, decide_eq_true (by omega)]; rfl
      have g3 : goodV hosts cyc dly win prec ds es ls q (a + 1) = true := by unfold goodV; rw [hck, decide_eq_true (by omega)]; rfl
      have v2 : sendV cyc p a = a := by
        unfold sendV
        rw [hmod, if_neg (by omega), hdiv]
        exact hm.symm
      have v3 : sendV cyc p (a + 1) = a + cyc := by
        by_cases hl : p + 1 < cyc
        · have hmod' : (a + 1) % cyc = p + 1 := by rw [hm, Int.add_assoc, Int.mul_comm, Int.mul_add_emod_self_left, Int.emod_eq_of_lt (by omega) hl]
          have hdiv' : (a + 1) / cyc = m := by rw [hm, Int.add_assoc, Int.mul_comm, Int.mul_add_ediv_left _ _ (by omega), Int.ediv_eq_zero_of_lt (by omega) hl, Int.add_zero]
          unfold sendV
          rw [hmod', if_pos (by omega), hdiv']
          generalize m * cyc = X at *
          omega
        · have he : a + 1 = (m + 1) * cyc := by rw [Int.add_mul, Int.one_mul]; generalize m * cyc = X at *; omega
          have hmod' : (a + 1) % cyc = 0 := by rw [he, Int.mul_emod_left]
          have hdiv' : (a + 1) / cyc = m + 1 := by rw [he, Int.mul_ediv_cancel _ (by omega)]
          unfold sendV
          rw [hmod', if_neg (by omega), hdiv', Int.add_mul, Int.one_mul]
          generalize m * cyc = X at *
          omega
      have e2 := send_ok hs (i := i) (t := a) ⟨g2, h0, h1⟩
      have e3 := send_ok hs (i := i) (t := a + 1) ⟨g3, h0, h1⟩
      rw [← hp, v2] at e2
      rw [← hp, v3] at e3
      refine Ev.step (f := fun _ => some true) (fun k => ?_) (Ev.now _)
      rw [tocsinlaw15_PlanNext.j0, if_neg (by decide), if_neg hbig, e2, Option.bind_some, w64 (x := a + 1) (by omega), e3, Option.bind_some]
      simp only [if_true]
      rw [w64 (by omega)]
      simp
  · rw [send_no hs h]
    simp only [Option.bind_some, Bool.false_eq_true, if_false]
    exact Ev.now _
end
end Go.Proofs.Ytbmldeikjfecfaa.Hd
end
