/- The document's Parse reads what num.Parse reads. -/
import Derived.Test.YtdkdmclbhcbfeaaDoorTx
namespace Go.Proofs.YtdkdmclbhcbfeaaDoor.Nu
open Go.RowKit Go.Proofs.YtdkdmclbhcbfeaaDoor.Fl Go.Proofs.YtdkdmclbhcbfeaaDoor.P Go.Proofs.YtdkdmclbhcbfeaaDoorW.PrintWords Go.Proofs.YtdkdmclbhcbfeaaDoorW.PrintLast Go.Proofs.YtdkdmclbhcbfeaaDoorW.PrintMore
set_option linter.unusedVariables false
set_option linter.unusedSimpArgs false
theorem bt_drop {s : ByteArray} {i : Nat} (h : i < s.size) : ∃ c r, s.data.toList.drop i = c :: r ∧ r = s.data.toList.drop (i + 1) ∧ bt s (i : Int) = (c.toNat : Int) := by
  have hl : i < s.data.toList.length := by rw [Lib.size_eq] at h; exact h
  refine ⟨s.data.toList[i], _, List.drop_eq_getElem_cons hl, rfl, ?_⟩
  unfold bt
  rw [dif_pos (by rw [Int.toNat_natCast]; exact h)]
  simp
  rfl
theorem last_eq (acc : Nat) (h : acc < 18446744073709551616) : (if (Go.bits .and .u64 (acc : Int) 9223372036854775807) > 9218868437227405312 then (if (acc : Int) = 9221120237041090561 then (some ((acc : Int), (0 : Int))) else (some (0, 2))) else (some ((acc : Int), 0))) = some (((R acc []).1 : Int), (R acc []).2) := by
  rw [u64_and63 (acc : Int) (by omega) (by omega)]
  have e : (acc : Int) % 9223372036854775808 = (rung acc : Int) := by unfold rung; omega
  rw [e]
  unfold R nan
  by_cases h1 : 9218868437227405312 < rung acc
  · rw [if_pos (by omega), decide_eq_true h1]
    by_cases h2 : acc = 9221120237041090561
    · rw [if_pos (by omega), if_neg (by simp [h2])]
    · rw [if_neg (by omega), if_pos ⟨rfl, h2⟩]
      rfl
  · rw [if_neg (by omega), decide_eq_false h1, if_neg (by simp)]
theorem rp_loop (s : ByteArray) (h16 : s.size = 16) : ∀ (m i acc : Nat), i + m = 16 → acc < 16 ^ i → tocsinref01_Parse.l0 (2 * m + 1) s (acc : Int) (i : Int) = some (((R acc (s.data.toList.drop i)).1 : Int), (R acc (s.data.toList.drop i)).2)
  | 0, i, acc, hi, ha => by
    have hl : s.data.toList.length = 16 := by rw [Lib.size_eq] at h16; exact h16
    have h64 : (16 : Nat) ^ 16 = 18446744073709551616 := by decide
    rw [show i = 16 by omega] at ha ⊢
    rw [List.drop_eq_nil_of_le (by omega)]
    rw [tocsinref01_Parse.l0, if_neg (by decide)]
    exact last_eq acc (by omega)
  | m + 1, i, acc, hi, ha => by
    obtain ⟨c, r, h1, h2, h3⟩ := bt_drop (s := s) (i := i) (by omega)
    have hp : (16 : Nat) ^ i ≤ 16 ^ 15 := Nat.pow_le_pow_right (by decide) (by omega)
    have h60 : (16 : Nat) ^ 15 = 1152921504606846976 := by decide
    have hc : c.toNat < 256 := c.toNat_lt
    have hsucc : (16 : Nat) ^ (i + 1) = 16 ^ i * 16 := Nat.pow_succ ..
    have w1 : IntKind.u64.wrap ((acc : Int) * 16) = (acc : Int) * 16 := by rw [IntKind.wrap_u64]; omega
    have w3 : wrap64 ((i : Int) + 1) = ((i + 1 : Nat) : Int) := by unfold wrap64; omega
    rw [h1, R, show 2 * (m + 1) + 1 = (2 * m + 1) + 1 + 1 by omega, tocsinref01_Parse.l0, if_pos (by omega), if_pos (by omega), if_pos (by omega), h3]
    by_cases c1 : 48 ≤ c.toNat
    · rw [if_pos (by omega), tocsinref01_Parse.j1]
      by_cases c2 : c.toNat ≤ 57
      · have hH : isH c.toNat = true := by unfold isH; simp [c1, c2]
        have hd : dig c.toNat = c.toNat - 48 := by unfold dig; rw [if_pos c2]
        rw [if_pos (by simp; omega), if_pos hH, w1, w3, h2]
        have w2 : IntKind.u64.wrap ((acc : Int) * 16 + ((c.toNat : Int) - 48) % 256) = ((acc * 16 + dig c.toNat : Nat) : Int) := by rw [IntKind.wrap_u64, hd]; omega
        rw [w2]
        exact rp_loop s h16 m (i + 1) _ (by omega) (by rw [hsucc, hd]; omega)
      · rw [if_neg (by simp; omega)]
        by_cases c3 : 97 ≤ c.toNat
        · rw [if_pos (by omega)]
          by_cases c4 : c.toNat ≤ 102
          · have hH : isH c.toNat = true := by unfold isH; simp [c3, c4]
            have hd : dig c.toNat = c.toNat - 87 := by unfold dig; rw [if_neg c2]
            rw [if_pos (by omega), if_pos hH, w1, w3, h2]
            have w2 : IntKind.u64.wrap (IntKind.u64.wrap ((acc : Int) * 16 + ((c.toNat : Int) - 97) % 256) + 10) = ((acc * 16 + dig c.toNat : Nat) : Int) := by rw [IntKind.wrap_u64, IntKind.wrap_u64, hd]; omega
            rw [w2]
            exact rp_loop s h16 m (i + 1) _ (by omega) (by rw [hsucc, hd]; omega)
          · have hH : ¬ isH c.toNat = true := by unfold isH; simp; omega
            rw [if_neg (by omega), if_neg hH]
            rfl
        · have hH : ¬ isH c.toNat = true := by unfold isH; simp; omega
          rw [if_neg (by omega), if_neg hH]
          rfl
    · have hH : ¬ isH c.toNat = true := by unfold isH; simp; omega
      rw [if_neg (by omega), tocsinref01_Parse.j1, if_neg (by decide), if_neg (by omega), if_neg hH]
      rfl
theorem rp_val (s : ByteArray) : tocsinref01_Parse.f 33 s = some (((parseV s).1 : Int), (parseV s).2) := by
  unfold tocsinref01_Parse.f
  rw [parseV_R]
  by_cases h : s.size = 16
  · rw [if_pos (by omega), if_pos h]
    exact rp_loop s h 16 0 0 (by decide) (by decide)
  · rw [if_neg (by omega), if_neg h]
    rfl
theorem rparse_calls (s : ByteArray) (w : World) : Calls Tryd.prog 33 #[.string s] w fun e w' => e = .returned (.tuple #[.int .u64 ((parseV s).1 : Int), .int .i64 (parseV s).2]) ∧ Below w.heap.size w w' :=
  (tocsinref01_Parse.calls 33 s _ _ w (rp_val s)).mono fun e w' ⟨he, hd⟩ => ⟨he, hd.below⟩
end Go.Proofs.YtdkdmclbhcbfeaaDoor.Nu
