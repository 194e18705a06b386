/- A part of the proof of the statement PlanLands: words, contracts of functions that it reaches, and what they compute. No condition. -/
import Derived.Test.YtbmldeikjfecfaaE02
import Derived.Test.YtbmldeikjfecfaaE07
set_option linter.unusedVariables false
set_option linter.unusedSimpArgs false
namespace Go.Proofs.Ytbmldeikjfecfaa.Hd
open Go.RowKit Go.Proofs.Ytbmldeikjfecfaa.T Go.Proofs.YtbmldeikjfecfaaW.PrintWords Go.Proofs.YtbmldeikjfecfaaW.PrintLast Go.Proofs.YtbmldeikjfecfaaW.PrintMore
theorem w64 {x : Int} (h : -9223372036854775808 ≤ x ∧ x < 9223372036854775808) : wrap64 x = x := by unfold wrap64; omega
theorem in_f (n lo hi : Int) : conf_in.f n lo hi = some (decide (lo ≤ n ∧ n ≤ hi)) := by
  unfold conf_in.f
  by_cases h : n ≥ lo
  · rw [if_pos h]; congr 1; apply decide_eq_decide.2; omega
  · rw [if_neg h, decide_eq_false (by omega)]
theorem time_f (s : Int) : frame_Time.f s = some (timeV s) := by
  unfold frame_Time.f timeV mn mx
  congr 1
  by_cases h1 : s < 64
  · rw [if_pos h1]; repeat' split
    all_goals omega
  · rw [if_neg h1]; repeat' split
    all_goals omega
theorem time_in (s : Int) : 512 ≤ timeV s ∧ timeV s ≤ 12144 := by unfold timeV; split <;> (try split) <;> omega
theorem shr_small (c i : Int) (h0 : 0 ≤ i) (h6 : i ≤ 6) : shr .u32 c (IntKind.u64.wrap i) = c / 2 ^ i.toNat := by
  have e : IntKind.u64.wrap i = i := by simp [IntKind.wrap, IntKind.signed, IntKind.bits]; omega
  rw [e]; unfold shr; rw [Nat.min_eq_left (by simp [IntKind.bits]; omega)]
theorem and_u32 (a b : Nat) (ha : a < 4294967296) (hb : b < 4294967296) : Go.bits .and .u32 (a : Int) (b : Int) = ((a &&& b : Nat) : Int) := by
  have hx : a &&& b < 2 ^ 32 := Nat.and_lt_two_pow _ (by omega)
  have h1 : (BitVec.ofInt 32 (a : Int)).toNat = a := by
    rw [BitVec.ofInt_natCast, BitVec.toNat_ofNat]; exact Nat.mod_eq_of_lt (by omega)
  have h2 : (BitVec.ofInt 32 (b : Int)).toNat = b := by
    rw [BitVec.ofInt_natCast, BitVec.toNat_ofNat]; exact Nat.mod_eq_of_lt (by omega)
  show IntKind.u32.wrap ((BitVec.ofInt 32 (a : Int) &&& BitVec.ofInt 32 (b : Int)).toNat : Int) = _
  rw [BitVec.toNat_and, h1, h2]
  simp [IntKind.wrap, IntKind.signed, IntKind.bits]
  omega
theorem has_f (c i : Int) (hc : u32 c) : crew_Has.f c i = some (hasV c i) := by
  unfold crew_Has.f hasV
  by_cases h0 : i ≥ 0
  · by_cases h6 : i < 6
    · have hw : 0 ≤ IntKind.u64.wrap i := by simp [IntKind.wrap, IntKind.signed, IntKind.bits]; omega
      rw [if_pos h0, if_pos h6, if_pos hw, shr_small c i h0 (by omega), decide_eq_true (show 0 ≤ i by omega), decide_eq_true h6]
      obtain ⟨n, rfl⟩ := Int.eq_ofNat_of_zero_le hc.1
      obtain ⟨k, rfl⟩ := Int.eq_ofNat_of_zero_le h0
      have hc2 := hc.2
      rw [show ((n : Int) / 2 ^ (k : Int).toNat) = ((n / 2 ^ k : Nat) : Int) by simp]
      have hle : n / 2 ^ k ≤ n := Nat.div_le_self _ _
      have ha := and_u32 (n / 2 ^ k) 1 (by omega) (by decide)
      rw [show ((1 : Nat) : Int) = 1 from rfl] at ha
      rw [ha, Nat.and_one_is_mod]
      congr 1
      simp only [Int.toNat_natCast, Bool.true_and, Nat.testBit_eq_decide_div_mod_eq]
      rw [Bool.eq_iff_iff]
      simp only [beq_iff_eq, decide_eq_true_eq]
      omega
    · rw [if_pos h0, if_neg h6, decide_eq_false h6]; simp
  · rw [if_neg h0, decide_eq_false (show ¬ 0 ≤ i by omega)]; simp
theorem route_f (hosts frm dst size : Int) (h1 : 1 ≤ hosts) (h6 : hosts ≤ 6) (hd : u32 dst) : conf_route.f hosts frm dst size = some (routeV hosts frm dst size) := by
  unfold conf_route.f routeV
  have hw : 0 ≤ IntKind.u64.wrap hosts := by simp [IntKind.wrap, IntKind.signed, IntKind.bits]; omega
  rw [w64 (by omega), in_f, Option.bind_some]
  by_cases c1 : 0 ≤ frm ∧ frm ≤ hosts - 1
  · rw [decide_eq_true c1, if_pos rfl, decide_eq_true c1.1, decide_eq_true (show frm < hosts by omega)]
    by_cases c2 : dst = 0
    · rw [if_pos c2, decide_eq_false (show ¬ dst ≠ 0 by omega)]; simp
    · rw [if_neg c2, if_pos hw, shr_small dst hosts (by omega) h6, decide_eq_true (show dst ≠ 0 from c2)]
      have hp : (0 : Int) < 2 ^ hosts.toNat := Int.pow_pos (by decide)
      have hiff : dst / 2 ^ hosts.toNat = 0 ↔ dst < 2 ^ hosts.toNat := by
        constructor
        · intro h
          rcases Int.lt_or_le dst (2 ^ hosts.toNat) with h' | h'
          · exact h'
          · have := (Int.le_ediv_iff_mul_le hp (a := 1) (b := dst)).2 (by omega); omega
        · intro h; exact Int.ediv_eq_zero_of_lt hd.1 h
      by_cases c3 : dst < 2 ^ hosts.toNat
      · rw [if_pos (hiff.2 c3), has_f dst frm hd, Option.bind_some, decide_eq_true c3]
        by_cases c4 : hasV dst frm = true
        · rw [if_pos c4, c4]; simp
        · have c4 : hasV dst frm = false := by simpa using c4
          rw [c4, if_neg (by decide), in_f, Option.bind_some]
          congr 1
          simp only [Bool.true_and, Bool.not_false, Bool.and_true]
          rw [Bool.eq_iff_iff]; simp
      · rw [if_neg (fun h => c3 (hiff.1 h)), decide_eq_false c3]; simp
  · rw [decide_eq_false c1, if_neg (by decide)]
    congr 1
    by_cases c2 : 0 ≤ frm
    · rw [decide_eq_true c2, decide_eq_false (show ¬ frm < hosts by omega)]; simp
    · rw [decide_eq_false c2]; simp
theorem route_more {hosts frm dst size : Int} (h6 : hosts ≤ 6) (h : routeV hosts frm dst size = true) : routeV 6 frm dst size = true := by
  unfold routeV at *
  simp only [Bool.and_eq_true, decide_eq_true_eq] at *
  obtain ⟨⟨⟨⟨⟨⟨a, b⟩, c⟩, d⟩, e⟩, f⟩, g⟩ := h
  refine ⟨⟨⟨⟨⟨⟨a, by omega⟩, c⟩, ?_⟩, e⟩, f⟩, g⟩
  have : (2 : Nat) ^ hosts.toNat ≤ 2 ^ 6 := Nat.pow_le_pow_right (by decide) (by omega)
  have : (2 : Int) ^ hosts.toNat ≤ 2 ^ 6 := by exact_mod_cast this
  have e6 : (2 : Int) ^ (6 : Int).toNat = 2 ^ 6 := rfl
  omega
section
variable {hosts cyc dly win prec : Int} {ds : List (List Int)} {es : List S40} {ls : List S63} {q : Int}
theorem spans_f : conf_spans.f hosts cyc dly win prec ds es ls q = some (spansV cyc dly win prec) := by
  unfold conf_spans.f spansV
  rw [in_f, Option.bind_some]
  by_cases c1 : 1 ≤ cyc ∧ cyc ≤ 1073741824
  · rw [decide_eq_true c1, if_pos rfl, in_f, Option.bind_some]
    by_cases c2 : 0 ≤ dly ∧ dly ≤ 1048576
    · rw [decide_eq_true c2, if_pos rfl, in_f, Option.bind_some]
      by_cases c3 : 0 ≤ win ∧ win ≤ 1048576
      · rw [decide_eq_true c3, if_pos rfl, in_f, Option.bind_some]
        congr 1; apply decide_eq_decide.2; omega
      · rw [decide_eq_false c3, if_neg (by decide), decide_eq_false (by omega)]
    · rw [decide_eq_false c2, if_neg (by decide), decide_eq_false (by omega)]
  · rw [decide_eq_false c1, if_neg (by decide), decide_eq_false (by omega)]
theorem quiet_f (hs : spansV cyc dly win prec = true) : conf_quiet.f hosts cyc dly win prec ds es ls q = some (quietV dly win prec) := by
  have hs := of_decide_eq_true hs
  unfold conf_quiet.f quietV
  rw [w64 (x := 2 * dly) (by omega), w64 (x := 2 * dly + win) (by omega), w64 (x := 4 * prec) (by omega), w64 (by omega)]
theorem plain_f (e : S40) (hs : spansV cyc dly win prec = true) (hr : routeV 6 e.f0 e.f1 e.f3 = true) (hu : u32 e.f1) (hp : -1125899906842624 ≤ e.f2 ∧ e.f2 ≤ 1125899906842624) : conf_plain.f hosts cyc dly win prec ds es ls q e.f0 e.f1 e.f2 e.f3 = some true := by
  unfold conf_plain.f
  rw [spans_f, Option.bind_some, if_pos hs, route_f 6 _ _ _ (by decide) (by decide) hu, Option.bind_some, if_pos hr, in_f, Option.bind_some, decide_eq_true hp]
theorem fwd_f (e : S40) (hs : spansV cyc dly win prec = true) (hr : routeV 6 e.f0 e.f1 e.f3 = true) (hu : u32 e.f1) (hp : -1125899906842624 ≤ e.f2 ∧ e.f2 ≤ 1125899906842624) : conf_Forward.f hosts cyc dly win prec ds es ls q e.f0 e.f1 e.f2 e.f3 = some (fwdV dly prec e) := by
  have hs' := of_decide_eq_true hs
  have ht := time_in e.f3
  unfold conf_Forward.f fwdV
  rw [plain_f e hs hr hu hp, Option.bind_some, if_pos rfl, time_f, Option.bind_some, w64 (x := e.f2 + timeV e.f3) (by omega), w64 (x := e.f2 + timeV e.f3 + dly) (by omega), w64 (x := 2 * prec) (by omega), w64 (by omega)]
theorem late_f (e : S40) (hs : spansV cyc dly win prec = true) (hr : routeV 6 e.f0 e.f1 e.f3 = true) (hu : u32 e.f1) (hp : -1125899906842624 ≤ e.f2 ∧ e.f2 ≤ 1125899906842624) : conf_Late.f hosts cyc dly win prec ds es ls q e.f0 e.f1 e.f2 e.f3 = some (lateV dly prec e) := by
  have hs' := of_decide_eq_true hs
  have ht := time_in e.f3
  unfold conf_Late.f lateV
  rw [plain_f e hs hr hu hp, Option.bind_some, if_pos rfl, fwd_f e hs hr hu hp, Option.bind_some, time_f, Option.bind_some]
  unfold fwdV
  rw [w64 (x := e.f2 + timeV e.f3 + dly + 2 * prec + timeV e.f3) (by omega), w64 (x := e.f2 + timeV e.f3 + dly + 2 * prec + timeV e.f3 + dly) (by omega), w64 (by omega)]
end
end Go.Proofs.Ytbmldeikjfecfaa.Hd
