/- slices.IndexFunc at numbers, by math.IsNaN. -/
import Derived.Test.YtdkdmclbhcbfeaaDoorF
import Derived.Test.YtdkdmclbhcbfeaaDoorB
import Derived.Lib.Hide
import Derived.Shelf.Abstract
namespace Go.Proofs.YtdkdmclbhcbfeaaDoor.Nu
open Go.RowKit Go.Proofs.YtdkdmclbhcbfeaaDoor.Fl Go.Proofs.YtdkdmclbhcbfeaaDoorW.PrintWords Go.Proofs.YtdkdmclbhcbfeaaDoorW.PrintLast Go.Proofs.YtdkdmclbhcbfeaaDoorW.PrintMore
set_option linter.unusedVariables false
set_option linter.unusedSimpArgs false
set_option maxHeartbeats 1600000 in
theorem index_calls (A : Option Addr) (c : Nat) (l : List Nat) (w : World) (hr : kF.C w A l.length l) (hlen : l.length ≤ 9223372036854775807) :
    Calls Tryd.prog 62 #[.slice A l.length c, .func (.func 37) #[] #[]] w fun e w' => (∃ i : Int, e = .returned (.int .i64 i) ∧ (i = -1 ∧ (∀ y ∈ l, nan y = false) ∨ ∃ k : Nat, i = k ∧ k < l.length ∧ (∀ j y, j < k → l[j]? = some y → nan y = false) ∧ ∀ y, l[k]? = some y → nan y = true)) ∧ w = w' := by
  obtain ⟨n, hn⟩ : ∃ n, n = l.length := ⟨_, rfl⟩
  have HR := Lib.hid hr
  have HN := Lib.hid hn
  have eg : ∀ args w, (callFunc 37 args).run Tryd.prog w = .ok (.enter 37 args) w := enters_of Tryd.func37 (by kernel_rfl) rfl
  rw [← hn] at hlen ⊢
  clear hr hn
  go_enter Tryd.func62, Tryd.ntmps62
  go_wp2
  go_loopg [5, 8] n (fun gg _ s8 wr => ∃ k : Nat, k ≤ n ∧ n - k ≤ gg ∧ s8 = .int .i64 k ∧ w = wr ∧ Aside (∀ j y, j < k → l[j]? = some y → nan y = false))
  case atStart => exact ⟨0, Nat.zero_le _, by omega, rfl, rfl, (show Aside _ from fun j y h _ => absurd h (Nat.not_lt_zero _))⟩
  case round =>
    obtain ⟨k, hk, hg, rfl, rfl, AN⟩ := hrel
    by_cases hlt : k < n
    · have hlt' : k < l.length := by have := HN.out; omega
      obtain ⟨y, hy⟩ : ∃ y, l[k]? = some y := ⟨_, List.getElem?_eq_getElem hlt'⟩
      have HY := Lib.hid hy
      have hR := HR.out
      obtain ⟨ad, hA, hc⟩ := hR.2.2 (by omega)
      obtain ⟨cs, hcl, hK, hcell⟩ := hc k y hy
      obtain rfl := kF_open hK
      have z0 := hcell 0 _ rfl
      rw [kF_sz, Nat.add_zero, Nat.mul_one] at z0
      have HC := Lib.hid (fun w => isnan_calls y w)
      (try clear hK)
      (try clear hcl)
      clear hc hcell hR hy
      subst hA
      cases hq : nan y with
      | true =>
        rw [hq] at HC
        have HQ := Lib.hid hq
        clear hq
        go_wp2_with fail
        refine (HC.out _).mono ?_
        rintro e w' ⟨rfl, rfl⟩
        go_wp2
        go_ret
        refine ⟨⟨_, rfl, .inr ⟨k, rfl, hlt, AN.out, fun z hz => ?_⟩⟩, rfl⟩
        rw [HY.out] at hz
        cases hz
        exact HQ.out
      | false =>
        rw [hq] at HC
        have HQ := Lib.hid hq
        clear hq
        go_wp2_with fail
        refine (HC.out _).mono ?_
        rintro e w' ⟨rfl, rfl⟩
        go_wp2
        go_roundg (n - (k + 1))
        case measure => omega
        case rel =>
          refine ⟨k + 1, by omega, by omega, by go_num, rfl, (show Aside _ from fun j z hj hz => ?_)⟩
          by_cases e : j = k
          · subst e
            rw [HY.out] at hz
            cases hz
            exact HQ.out
          · exact AN.out j z (by omega) hz
    · obtain rfl : k = n := by omega
      go_wp2
      go_ret
      refine ⟨⟨_, rfl, .inl ⟨rfl, fun y hy => ?_⟩⟩, rfl⟩
      obtain ⟨j, hj⟩ := List.mem_iff_getElem?.1 hy
      exact AN.out j y (by have := (List.getElem?_eq_some_iff.1 hj).1; have := HN.out; omega) hj
end Go.Proofs.YtdkdmclbhcbfeaaDoor.Nu
