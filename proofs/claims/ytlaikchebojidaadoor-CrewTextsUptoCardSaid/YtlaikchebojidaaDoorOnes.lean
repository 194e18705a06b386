/- How many bits are set, of the six lowest. -/
import Derived.Test.YtlaikchebojidaaDoorO
import Derived.Deep.QuietTactic
import Derived.BigQuiet
import Derived.Laws.BitsAllLaws
namespace Go.Proofs.YtlaikchebojidaaDoor.Hd
set_option linter.unusedVariables false
set_option linter.unusedSimpArgs false
open Go.RowKit Go.Proofs.YtlaikchebojidaaDoorW.PrintWords
set_option maxRecDepth 100000 in
theorem ones (x : Int) (w : World) (h0 : 0 ≤ x) (hx : x < 64) :
    Calls Tryd.prog 27 #[.int .u32 x] w fun e w' => e = .returned (.int .i64 (Lib.onesCount x.toNat)) ∧ Drawn0 w w' := by
  have h5 : bits .and .u32 x 255 = x := by
    obtain ⟨n, rfl⟩ := Int.eq_ofNat_of_zero_le h0
    have h := bits_and_u32_nat n 255 (by omega) (by decide)
    rw [show ((255 : Nat) : Int) = 255 from rfl] at h
    rw [h, show (255 : Nat) = 2 ^ 8 - 1 by decide, Nat.and_two_pow_sub_one_eq_mod]
    omega
  have h4 : bits .and .u32 0 255 = 0 := by decide +kernel
  have h1 : x / 16777216 = 0 := by omega
  have h2 : x / 65536 = 0 := by omega
  have h3 : x / 256 = 0 := by omega
  have he := Lib.pop8_int x h0 (by omega)
  have hz : Lib.pop8 0 = 0 := by decide +kernel
  have hb : 0 ≤ Lib.pop8 x ∧ Lib.pop8 x ≤ 8 := by
    have hall : ∀ n : Fin 256, 0 ≤ Lib.pop8 (n.val : Int) ∧ Lib.pop8 (n.val : Int) ≤ 8 := by decide +kernel
    have := hall ⟨x.toNat, by omega⟩
    simpa [Int.toNat_of_nonneg h0] using this
  have hR := Lib.hid (show Lib.pop8 0 + Lib.pop8 0 + Lib.pop8 0 + Lib.pop8 x = (Lib.onesCount x.toNat : Int) by rw [hz]; omega)
  have hb0 := hb.1
  have hb1 := hb.2
  have h6 : x ≤ 255 := by omega
  have h7 : x < 256 := by omega
  have z0 : 0 ≤ Lib.pop8 0 := by decide +kernel
  have z1 : Lib.pop8 0 ≤ 8 := by decide +kernel
  clear he hb hz
  go_enter Tryd.func27, Tryd.ntmps27
  go_wp2
  go_quiet (fail)
  go_wp2
  go_ret
  exact ⟨congrArg (fun z => Ending.returned (.int .i64 z)) hR.out, ⟨_, rfl⟩⟩
def bits_OnesCount32.f (a0 : Int) : Option Int := if 0 ≤ a0 ∧ a0 < 64 then some (Lib.onesCount a0.toNat) else none
theorem bits_OnesCount32.calls (a0 : Int) (r : Int) (w : World) (h : bits_OnesCount32.f a0 = some r) : Calls Tryd.prog 27 #[.int .u32 a0] w fun e w' => e = .returned (.int .i64 r) ∧ Drawn0 w w' := by
  unfold bits_OnesCount32.f at h
  split at h
  · rename_i hc
    obtain rfl := Option.some.inj h
    exact ones a0 w hc.1 hc.2
  · cases h
end Go.Proofs.YtlaikchebojidaaDoor.Hd
