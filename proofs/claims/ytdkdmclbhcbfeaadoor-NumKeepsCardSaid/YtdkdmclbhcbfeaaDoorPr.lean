/- num.Print, walked. -/
import Derived.Test.YtdkdmclbhcbfeaaDoorHx
import Derived.Test.YtdkdmclbhcbfeaaDoorA
namespace Go.Proofs.YtdkdmclbhcbfeaaDoor.Nu
open Go.RowKit Go.Proofs.YtdkdmclbhcbfeaaDoor.Fl Go.Proofs.YtdkdmclbhcbfeaaDoorW.PrintWords Go.Proofs.YtdkdmclbhcbfeaaDoorW.PrintLast Go.Proofs.YtdkdmclbhcbfeaaDoorW.PrintMore
set_option linter.unusedVariables false
set_option linter.unusedSimpArgs false
def hexS (d u : Nat) : ByteArray := ⟨(hexL d u).toArray⟩
def TZ (w : World) : Prop := w.cell? ⟨5, 15, none⟩ = some (.int .u8 4)
theorem ifu_calls (u : Nat) (hu : u < 18446744073709551616) (w : World) (hT : TZ w) :
    Calls Tryd.prog 49 #[.int .u64 (u : Int), .int .i64 16] w fun e w' => (∃ d, 1 ≤ d ∧ d ≤ 16 ∧ u < 16 ^ d ∧ e = .returned (.string (hexS d u))) ∧ Below w.heap.size w w' := by
  have H := Lib.hid (fbits_calls u hu w hT)
  have hp : Tryd.prog.arrayLen 80 = 24 := by kernel_rfl
  clear hT hu
  go_enter Tryd.func49, Tryd.ntmps49
  go_wp2_with fail
  refine H.out.mono ?_
  rintro e w' ⟨⟨d, h1, h2, h3, rfl⟩, hb⟩
  have HE := Lib.hid (And.intro h3 hb)
  clear h3 hb
  go_wp2
  go_ret
  exact ⟨⟨d, h1, h2, HE.out.1, rfl⟩, HE.out.2⟩
theorem sfu_calls (u : Nat) (hu : u < 18446744073709551616) (w : World) (hT : TZ w) :
    Calls Tryd.prog 44 #[.int .u64 (u : Int), .int .i64 16] w fun e w' => (∃ d, 1 ≤ d ∧ d ≤ 16 ∧ u < 16 ^ d ∧ e = .returned (.string (hexS d u))) ∧ Below w.heap.size w w' := by
  have H := Lib.hid (ifu_calls u hu w hT)
  clear hT hu
  go_enter Tryd.func44, Tryd.ntmps44
  go_wp2_with fail
  refine H.out.mono ?_
  rintro e w' ⟨⟨d, h1, h2, h3, rfl⟩, hb⟩
  have HE := Lib.hid (And.intro h3 hb)
  clear h3 hb
  go_wp2
  go_ret
  exact ⟨⟨d, h1, h2, HE.out.1, rfl⟩, HE.out.2⟩
theorem hexS_pad {d u : Nat} (h : u < 16 ^ d) : (⟨#[48]⟩ : ByteArray) ++ hexS d u = hexS (d + 1) u := by
  apply ByteArray.ext
  rw [ByteArray.data_append]
  have h0 : hexD (u / 16 ^ d % 16) = 48 := by rw [Nat.div_eq_of_lt h]; decide
  show (#[48] : Array UInt8) ++ (hexL d u).toArray = (hexL (d + 1) u).toArray
  rw [hexL, h0]
  simp
theorem hexS_size (d u : Nat) : (hexS d u).size = d := by
  show (hexL d u).toArray.size = d
  rw [List.size_toArray, hexL_length]
theorem lt_up {d u : Nat} (h : u < 16 ^ d) : u < 16 ^ (d + 1) := Nat.lt_of_lt_of_le h (Nat.pow_le_pow_right (by decide) (Nat.le_succ d))
set_option maxHeartbeats 1600000 in
theorem print_calls (b : Nat) (hb : b < 18446744073709551616) (w : World) (hT : TZ w) :
    Calls Tryd.prog 31 #[.float .f64 b] w fun e w' => e = .returned (.string (hexS 16 (oneN b))) ∧ Below w.heap.size w w' := by
  have H1 := Lib.hid (one_calls b w)
  have H2 := Lib.hid (sfu_calls (oneN b) (one_lt hb) w hT)
  generalize oneN b = u at H1 H2 ⊢
  have e1 : (callFunc 35 #[.float .f64 u]).run Tryd.prog w = .ok (.value (.int .u64 u)) w := tobits u w
  clear hT hb
  go_enter Tryd.func31, Tryd.ntmps31
  go_wp2_with fail
  refine H1.out.mono ?_
  rintro e w' ⟨rfl, rfl⟩
  go_wp2_with fail
  refine H2.out.mono ?_
  rintro e w1 ⟨⟨d, h1, h2, h3, rfl⟩, hbl⟩
  have HB := Lib.hid hbl
  have H0 := Lib.hid h3
  clear hbl h3 H1 H2 e1
  go_wp2
  go_loopg [3] 16 (fun gg s3 W => ∃ (k : Nat) (s : ByteArray), s3 = .string s ∧ k ≤ 16 ∧ 16 - k ≤ gg ∧ w1 = W ∧ Aside (s = hexS k u ∧ u < 16 ^ k))
  case atStart => exact ⟨d, _, rfl, h2, by omega, rfl, ⟨rfl, H0.out⟩⟩
  case round =>
    obtain ⟨k, s, rfl, hk, hg, rfl, HS⟩ := hrel
    have HZ : s.size = k := by rw [HS.out.1, hexS_size]
    by_cases hlt : k < 16
    · have HP : (⟨#[48]⟩ : ByteArray) ++ s = hexS (k + 1) u := by rw [HS.out.1, hexS_pad HS.out.2]
      have HP' := Lib.hid HP
      clear HP
      have i1 : (k : Int) < 16 := by omega
      go_wp2
      go_roundg (16 - (k + 1))
      case measure => omega
      case rel => exact ⟨k + 1, _, rfl, by omega, by omega, rfl, (show Aside _ from ⟨HP'.out, lt_up HS.out.2⟩)⟩
    · obtain rfl : k = 16 := by omega
      go_wp2
      go_ret
      exact ⟨by rw [HS.out.1]; rfl, HB.out⟩
end Go.Proofs.YtdkdmclbhcbfeaaDoor.Nu
