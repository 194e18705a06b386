/- strconv.ParseUint at base 16 and 64 bits, walked. -/
import Derived.Test.YtdkdmclbhcbfeaaDoorTabs
import Derived.Test.YtdkdmclbhcbfeaaDoorB
import Derived.Shelf.Abstract
import Derived.Lib.Hide
import Derived.Lib.Walk
import Derived.Lib.Strings
import Derived.Lib.ConvBytes
import Derived.Lib.AtoiErrMem
import Derived.Laws.Strings3
import Derived.Laws.Closers25
import Derived.Laws.Closers25b
import Derived.WalkKit
import Derived.BigCall
import Derived.BigGuard
namespace Go.Proofs.YtdkdmclbhcbfeaaDoor.Nu
open Go.RowKit Go.Proofs.YtdkdmclbhcbfeaaDoor.Fl Go.Proofs.YtdkdmclbhcbfeaaDoorW.PrintWords Go.Proofs.YtdkdmclbhcbfeaaDoorW.PrintLast Go.Proofs.YtdkdmclbhcbfeaaDoorW.PrintMore
set_option linter.unusedVariables false
set_option linter.unusedSimpArgs false
theorem lower_calls (c : Int) (w : World) : Calls Tryd.prog 67 #[.int .u8 c] w fun e w' => e = .returned (.int .u8 (bits .or .u8 c 32)) ∧ w = w' := by
  go_enter Tryd.func67, Tryd.ntmps67
  go_wp2
  go_ret
  exact ⟨rfl, rfl⟩
/-- what a text of digits tells: a number, no such text, too great -/
inductive PR where
  | num : Nat → PR
  | bad : PR
  | big : PR
def lowB (c : Nat) : Int := bits .or .u8 (c : Int) 32
/-- a digit -/
def hv (c : Nat) : Option Nat := if 48 ≤ c ∧ c ≤ 57 then some (c - 48) else if 97 ≤ lowB c ∧ lowB c ≤ 102 then some (lowB c - 87).toNat else none
def p16 : Nat → List UInt8 → PR
  | acc, [] => .num acc
  | acc, c :: r => match hv c.toNat with
    | none => .bad
    | some d => if 1152921504606846976 ≤ acc then .big else p16 (acc * 16 + d) r
def tup : PR → Value
  | .num n => .tuple #[.int .u64 n, .nilIface]
  | .bad => .tuple #[.int .u64 0, .iface 84 (.int .i64 2)]
  | .big => .tuple #[.int .u64 18446744073709551615, .iface 84 (.int .i64 1)]
set_option maxHeartbeats 32000000 in
set_option maxRecDepth 100000 in
theorem ipu_calls (t : ByteArray) (hne : t.size ≠ 0) (hmax : t.size ≤ 9223372036854775806) (w : World) :
    Calls Tryd.prog 50 #[.string t, .int .i64 16, .int .i64 64] w fun e w' => e = .returned (tup (p16 0 t.data.toList)) ∧ Below w.heap.size w w' := by
  have HLo := Lib.hid (fun (c : Int) (w : World) => lower_calls c w)
  have hemp : t.toList.isEmpty = false := by
    rw [← decide_eq_emptyBytes]
    exact decide_eq_false (fun h => hne (by rw [h]; rfl))
  have hcv := Lib.run_convert_string_bytes (P := Tryd.prog) w 9 62 5 t (u := .string) Tryd.underlying9 Tryd.underlying62 Tryd.underlying5
  have hB : ∀ j, j < t.size → (Lib.bytesWorld w 5 t).cell? ⟨w.heap.size, j, none⟩ = some (.int .u8 (t.data.toList.getD j 0).toNat) := fun j hj => Lib.bytesWorld_cell w 5 t j hj
  have HB := Lib.hid (Lib.bytesWorld_below w 5 t)
  obtain ⟨W1, hW1⟩ : ∃ W1, W1 = Lib.bytesWorld w 5 t := ⟨_, rfl⟩
  rw [← hW1] at hcv hB HB
  clear hW1
  obtain ⟨bs, hL⟩ : ∃ bs, bs = t.data.toList := ⟨_, rfl⟩
  have hLn : bs.length = t.size := by rw [hL, Lib.size_eq]
  rw [← hL] at hB ⊢
  clear hL
  have hmv : IntKind.u64.wrap (IntKind.u64.wrap 18446744073709551616 - 1) = 18446744073709551615 := by
    rw [IntKind.wrap_u64, IntKind.wrap_u64]
    decide
  go_enter Tryd.func50, Tryd.ntmps50
  go_wp2
  go_loop [12, 13, 101] (fun vu vn vi => ∃ (k acc : Nat) (a : Int), vu = .bool false ∧ vn = .int .u64 a ∧ vi = .int .i64 k ∧ k ≤ t.size ∧ Hid (a = (acc : Int) ∧ acc < 18446744073709551616 ∧ p16 0 bs = p16 acc (bs.drop k)))
    (fun _ _ vi => t.size - (intOf vi).toNat)
  case atStart => exact ⟨0, 0, 0, rfl, rfl, rfl, by omega, rfl, by omega, rfl⟩
  case round =>
    obtain ⟨k, acc, a, rfl, rfl, rfl, hk, hh⟩ := hrel
    obtain ⟨ha, hacc, hdec⟩ := hh.out
    clear hh
    have a0 : 0 ≤ a := by omega
    have a1 : a < 18446744073709551616 := by omega
    by_cases hkn : k < t.size
    · have hc := hB k hkn
      have hdrop : bs.drop k = bs[k]'(by omega) :: bs.drop (k + 1) := List.drop_eq_getElem_cons (by omega)
      have hget : bs.getD k 0 = bs[k]'(by omega) := by simp [List.getD, List.getElem?_eq_getElem (show k < bs.length by omega)]
      rw [hdrop] at hdec
      rw [hget] at hc
      generalize bs[k]'(by omega) = c at hc hdec
      have hc256 : c.toNat < 256 := c.toNat_lt
      clear hB hdrop hget
      by_cases hdig : 48 ≤ c.toNat ∧ c.toNat ≤ 57
      · obtain ⟨hd0, hd1⟩ := hdig
        have hvd : hv c.toNat = some (c.toNat - 48) := by unfold hv; rw [if_pos ⟨hd0, hd1⟩]
        by_cases hcut : 1152921504606846976 ≤ acc
        · have hF : p16 acc (c :: bs.drop (k + 1)) = .big := by simp [p16, hvd, hcut]
          rw [hF] at hdec
          have icut : 1152921504606846976 ≤ a := by omega
          clear hcut hacc hF ha hvd
          go_wp2
          go_ret2
          first | exact ⟨rfl, HB.out⟩ | exact ⟨by rw [hdec]; rfl, HB.out⟩
        · have hF : p16 acc (c :: bs.drop (k + 1)) = p16 (acc * 16 + (c.toNat - 48)) (bs.drop (k + 1)) := by simp [p16, hvd, hcut]
          have HN : Hid (a * 16 + ((c.toNat : Int) - 48) = ((acc * 16 + (c.toNat - 48) : Nat) : Int) ∧ acc * 16 + (c.toNat - 48) < 18446744073709551616 ∧ p16 0 bs = p16 (acc * 16 + (c.toNat - 48)) (bs.drop (k + 1))) := Lib.hid ⟨by omega, by omega, hdec.trans hF⟩
          have icut : a < 1152921504606846976 := by omega
          have iov : a * 16 + ((c.toNat : Int) - 48) < 18446744073709551616 := by omega
          clear hcut hacc hF hdec ha hvd
          go_wp2
          refine ⟨⟨k + 1, acc * 16 + (c.toNat - 48), a * 16 + ((c.toNat : Int) - 48), rfl, (by first | rfl | (congr 1; omega)), (by first | rfl | (congr 1; omega)), by omega, HN⟩, by simp [intOf]; omega⟩
      · have HC := Lib.hid (fun w => HLo.out (c.toNat : Int) w)
        have hv0 := bits_lo_u8 .or (c.toNat : Int) 32
        have hv1 := bits_hi_u8 .or (c.toNat : Int) 32
        have hvd : hv c.toNat = if 97 ≤ lowB c.toNat ∧ lowB c.toNat ≤ 102 then some (lowB c.toNat - 87).toNat else none := by unfold hv; rw [if_neg hdig]
        have e95 : lowB 95 = 127 := by decide +kernel
        by_cases h95 : c.toNat = 95
        · rw [h95, e95] at hvd
          have hF : p16 acc (c :: bs.drop (k + 1)) = .bad := by simp [p16, h95, hvd]
          rw [hF] at hdec
          have hl95 : bits .or .u8 95 32 = 127 := e95
          rw [h95] at hc hc256 hdig HC hv0 hv1
          rw [show ((95 : Nat) : Int) = 95 from rfl, hl95] at HC
          clear hacc hF ha hvd hv0 hv1 e95 h95 hl95 hdig hc256
          go_wp2_with (go_at_call 67; refine (HC.out _).mono ?_; rintro e w' ⟨rfl, rfl⟩)
          go_ret2
          first | exact ⟨rfl, HB.out⟩ | exact ⟨by rw [hdec]; rfl, HB.out⟩
        · have i95 : ((c.toNat : Int) == 95) = false := by rw [beq_eq_false_iff_ne]; omega
          unfold lowB at hvd
          clear e95
          generalize bits .or .u8 (c.toNat : Int) 32 = L at HC hv0 hv1 hvd
          by_cases hL : 97 ≤ L ∧ L ≤ 102
          · rw [if_pos hL] at hvd
            obtain ⟨l0, l1⟩ := hL
            by_cases hcut : 1152921504606846976 ≤ acc
            · have hF : p16 acc (c :: bs.drop (k + 1)) = .big := by simp [p16, hvd, hcut]
              rw [hF] at hdec
              have icut : 1152921504606846976 ≤ a := by omega
              clear hcut hacc hF ha hvd h95
              go_wp2_with (go_at_call 67; refine (HC.out _).mono ?_; rintro e w' ⟨rfl, rfl⟩)
              all_goals go_ret2
              all_goals first | exact ⟨rfl, HB.out⟩ | exact ⟨by rw [hdec]; rfl, HB.out⟩
            · have hF : p16 acc (c :: bs.drop (k + 1)) = p16 (acc * 16 + (L - 87).toNat) (bs.drop (k + 1)) := by simp [p16, hvd, hcut]
              have HN : Hid (a * 16 + (L - 97 + 10) = ((acc * 16 + (L - 87).toNat : Nat) : Int) ∧ acc * 16 + (L - 87).toNat < 18446744073709551616 ∧ p16 0 bs = p16 (acc * 16 + (L - 87).toNat) (bs.drop (k + 1))) := Lib.hid ⟨by omega, by omega, hdec.trans hF⟩
              have icut : a < 1152921504606846976 := by omega
              have iov : a * 16 + (L - 97 + 10) < 18446744073709551616 := by omega
              clear hcut hacc hF hdec ha hvd h95
              go_wp2_with (go_at_call 67; refine (HC.out _).mono ?_; rintro e w' ⟨rfl, rfl⟩)
              all_goals refine ⟨⟨k + 1, acc * 16 + (L - 87).toNat, a * 16 + (L - 97 + 10), rfl, (by first | rfl | (congr 1; omega)), (by first | rfl | (congr 1; omega)), by omega, HN⟩, by simp [intOf]; omega⟩
          · rw [if_neg hL] at hvd
            have hF : p16 acc (c :: bs.drop (k + 1)) = .bad := by simp [p16, hvd]
            rw [hF] at hdec
            clear hacc hF ha hvd h95
            go_wp2_with (go_at_call 67; refine (HC.out _).mono ?_; rintro e w' ⟨rfl, rfl⟩)
            all_goals go_ret2
            all_goals first | exact ⟨rfl, HB.out⟩ | exact ⟨by rw [hdec]; rfl, HB.out⟩
    · have hkk : k = t.size := by omega
      subst hkk
      have hF : p16 acc (bs.drop t.size) = .num acc := by rw [List.drop_eq_nil_of_le (by omega)]; rfl
      rw [hF] at hdec
      subst ha
      clear hacc hF a0 a1
      go_wp2
      go_ret2
      first | exact ⟨rfl, HB.out⟩ | exact ⟨by rw [hdec]; rfl, HB.out⟩
end Go.Proofs.YtdkdmclbhcbfeaaDoor.Nu
