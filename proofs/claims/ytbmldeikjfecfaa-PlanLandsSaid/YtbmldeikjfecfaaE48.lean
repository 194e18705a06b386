/- A part of the proof of the statement PlanLands: words, contracts of functions that it reaches, and what they compute. No condition. -/
import Derived.Test.YtbmldeikjfecfaaE47
set_option linter.unusedVariables false
set_option linter.unusedSimpArgs false
namespace Go.Proofs.Ytbmldeikjfecfaa.Hd
open Go.RowKit Go.Proofs.Ytbmldeikjfecfaa.T Go.Proofs.YtbmldeikjfecfaaW.PrintWords Go.Proofs.YtbmldeikjfecfaaW.PrintLast Go.Proofs.YtbmldeikjfecfaaW.PrintMore
section
variable {hosts cyc dly win prec : Int} {A5 : Option Addr} {c5 : Nat} {ds : List (List Int)} {A6 : Option Addr} {c6 : Nat} {es : List S40} {A7 : Option Addr} {c7 : Nat} {ls : List S63} {q : Int}
theorem mod_of {x y cyc : Int} (h0 : 0 ≤ y) (h1 : y < cyc) : (3 * cyc + y) % cyc = y ∧ (3 * cyc + y) / cyc = 3 := by
  refine ⟨by rw [Int.mul_comm, Int.mul_add_emod_self_left, Int.emod_eq_of_lt h0 h1], by rw [Int.mul_comm, Int.mul_add_ediv_left _ _ (by omega), Int.ediv_eq_zero_of_lt h0 h1, Int.add_zero]⟩
theorem lands_plain (hs : sane hosts cyc dly win prec ds es ls q) {i : Int} (h0 : 0 ≤ i) (h1 : i < (es.length : Int)) (hck : checkV hosts cyc dly win prec ds es ls q = 0) (w1 s1 w2 s2 : Int)
    (g1 : 0 ≤ w1 ∧ w1 ≤ dly) (g2 : -prec ≤ s1 ∧ s1 ≤ prec) (g3 : 0 ≤ w2 ∧ w2 ≤ dly) (g4 : -prec ≤ s2 ∧ s2 ≤ prec) :
    (0 ≤ (rd_T40 es i).f2 ∧ (rd_T40 es i).f2 ≤ 1073741824 ∧ 0 ≤ fwdV dly prec (rd_T40 es i) ∧ fwdV dly prec (rd_T40 es i) ≤ 1073741824 ∧ 1 ≤ cyc ∧ cyc ≤ 1073741824 ∧ 0 ≤ dly ∧ dly ≤ 1048576 ∧ 0 ≤ prec ∧ prec ≤ 1048576) ∧
    plan_Send.f hosts cyc dly win prec ds es ls q i (3 * cyc) = some (3 * cyc + (rd_T40 es i).f2, true) ∧
    plan_Relay.f hosts cyc dly win prec ds es ls q i (3 * cyc + (rd_T40 es i).f2 + timeV (rd_T40 es i).f3 + w1 + s1) = some (3 * cyc + fwdV dly prec (rd_T40 es i), true) ∧
    plan_Land.f hosts cyc dly win prec ds es ls q i (3 * cyc + fwdV dly prec (rd_T40 es i) + timeV (rd_T40 es i).f3 + w2 + s2) = some (3, true) ∧
    tocsinref08_Times.f hosts cyc dly win prec ds es ls q (rd_T40 es i).f0 (rd_T40 es i).f1 (rd_T40 es i).f2 (rd_T40 es i).f3 = some ((rd_T40 es i).f2 + timeV (rd_T40 es i).f3 - prec, (rd_T40 es i).f2 + timeV (rd_T40 es i).f3 + dly + prec, fwdV dly prec (rd_T40 es i), fwdV dly prec (rd_T40 es i) + timeV (rd_T40 es i).f3 - prec, lateV dly prec (rd_T40 es i)) := by
  have K := zero_ok hck
  have hc := K.c
  have hm := rd_mem h0 h1
  have hf := K.fwd hm
  have hf2 := K.times hm
  have hsp := K.span
  have htt := time_in (rd_T40 es i).f3
  have hT := refTimes_f (rd_T40 es i) K.s (by omega) (ds := ds) (es := es) (ls := ls) (q := q) (hosts := hosts)
  have hl : lateV dly prec (rd_T40 es i) = fwdV dly prec (rd_T40 es i) + timeV (rd_T40 es i).f3 + dly + prec := rfl
  have hw : fwdV dly prec (rd_T40 es i) = (rd_T40 es i).f2 + timeV (rd_T40 es i).f3 + dly + 2 * prec := rfl
  have hq : quietV dly win prec = 2 * dly + win + 4 * prec := rfl
  have good : ∀ t, 0 ≤ t → t ≤ 1125899906842624 → Ent hosts cyc dly win prec ds es ls q i t := fun t a b => ⟨by unfold goodV; rw [hck, decide_eq_true ⟨a, b⟩]; rfl, h0, h1⟩
  refine ⟨by omega, ?_, ?_, ?_, hT⟩
  · rw [send_ok hs (good _ (by omega) (by omega))]
    have := mod_of (x := 0) (y := 0) (cyc := cyc) (by omega) (by omega)
    rw [Int.add_zero] at this
    unfold sendV
    rw [this.1, this.2, if_neg (by omega)]
  · rw [relay_f hs, if_pos (good _ (by omega) (by omega))]
    unfold relayV
    have := mod_of (x := 0) (y := (rd_T40 es i).f2 + timeV (rd_T40 es i).f3 + w1 + s1) (cyc := cyc) (by omega) (by omega)
    rw [show 3 * cyc + (rd_T40 es i).f2 + timeV (rd_T40 es i).f3 + w1 + s1 = 3 * cyc + ((rd_T40 es i).f2 + timeV (rd_T40 es i).f3 + w1 + s1) by omega, this.1, this.2, if_neg (by omega), if_neg (by omega)]
  · rw [land_f hs, if_pos (good _ (by omega) (by omega))]
    unfold landV
    have := mod_of (x := 0) (y := fwdV dly prec (rd_T40 es i) + timeV (rd_T40 es i).f3 + w2 + s2) (cyc := cyc) (by omega) (by omega)
    rw [show 3 * cyc + fwdV dly prec (rd_T40 es i) + timeV (rd_T40 es i).f3 + w2 + s2 = 3 * cyc + (fwdV dly prec (rd_T40 es i) + timeV (rd_T40 es i).f3 + w2 + s2) by omega, this.1, this.2, if_neg (by omega), if_neg (by omega)]
end
end Go.Proofs.Ytbmldeikjfecfaa.Hd
