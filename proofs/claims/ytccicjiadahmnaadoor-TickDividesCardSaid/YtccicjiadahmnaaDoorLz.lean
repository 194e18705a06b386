/- How many zero bits stand ahead: the library's contract, in the printed form. -/
import Derived.Test.YtccicjiadahmnaaDoorShelf
import Derived.Test.YtccicjiadahmnaaDoorD0
namespace Go.Proofs.YtccicjiadahmnaaDoor
open Go.RowKit Go.Proofs.YtccicjiadahmnaaDoorW.PrintWords
def bits_LeadingZeros64.f (a0 : Int) : Option Int := if 0 ≤ a0 ∧ a0 ≤ 18446744073709551615 then some (64 - (Lib.bitLen a0.toNat : Int)) else none
theorem bits_LeadingZeros64.calls (a0 : Int) (r : Int) (w : World) (h : bits_LeadingZeros64.f a0 = some r) : Calls Tryd.prog 50 #[.int .u64 a0] w fun e w' => e = .returned (.int .i64 r) ∧ Drawn0 w w' := by
  unfold bits_LeadingZeros64.f at h
  split at h
  · rename_i hc
    obtain rfl := Option.some.inj h
    exact (Tryd.bits_LeadingZeros64 a0 w hc.1 hc.2).mono fun e w' ⟨he, hw⟩ => ⟨he, hw ▸ Drawn0.refl w⟩
  · cases h
end Go.Proofs.YtccicjiadahmnaaDoor
