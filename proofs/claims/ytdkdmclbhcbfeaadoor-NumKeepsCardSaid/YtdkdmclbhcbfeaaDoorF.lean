/- Sums of slices of numbers, walked. -/
import Derived.Test.YtdkdmclbhcbfeaaDoorC
import Derived.Test.YtdkdmclbhcbfeaaDoorWMore
namespace Go.Proofs.YtdkdmclbhcbfeaaDoor.Nu
set_option linter.unusedVariables false
set_option linter.unusedSimpArgs false
open Go.RowKit Go.Proofs.YtdkdmclbhcbfeaaDoor.Fl Go.Proofs.YtdkdmclbhcbfeaaDoorW.PrintWords Go.Proofs.YtdkdmclbhcbfeaaDoorW.PrintLast Go.Proofs.YtdkdmclbhcbfeaaDoorW.PrintMore
/-- a number lies in one cell -/
def kF : Kd Nat := Kd.scalar (Value.float .f64) (fun _ => rfl)
theorem kF_open {w : World} {x : Nat} {cs : List Value} (h : kF.K w x cs) : cs = [.float .f64 x] := h
theorem kF_sz : kF.sz = 1 := rfl
theorem add_nan {s x : Nat} (h : nan s = true) : floatBits .add .f64 s x = none := by
  obtain ⟨t, e⟩ := read_nan h
  show ((Ieee.double.read s).sum (Ieee.double.read x)).map Ieee.double.write = none
  rw [e]
  rfl
theorem one_one (s : Nat) : oneN (oneN s) = oneN s := by
  unfold oneN
  by_cases h : nan s = true
  · rw [if_pos h, if_pos (by decide)]
  · rw [if_neg h, if_neg h]
theorem arith_one (s x : Nat) : arithV .add (oneN s) x = arithV .add s x := by
  by_cases h : nan s = true
  · have e : oneN s = 9221120237041090561 := by unfold oneN; rw [if_pos h]
    unfold arithV
    rw [add_nan h, e, add_nan (by decide)]
  · have e : oneN s = s := by unfold oneN; rw [if_neg h]
    rw [e]
theorem one_arith (s x : Nat) : oneN (arithV .add s x) = arithV .add s x := by
  unfold arithV
  split
  · exact one_one _
  · decide
theorem sum_step (l : List Nat) (k : Nat) (x : Nat) (h : l[k]? = some x) (s : Nat) : sumV (l.take (k + 1)) s = arithV .add (sumV (l.take k) s) x := by
  unfold sumV
  rw [List.take_add_one, h, Option.toList_some, List.foldl_append]
  rfl
set_option maxHeartbeats 1600000 in
theorem sum_calls (A : Option Addr) (c : Nat) (l : List Nat) (w : World) (hr : kF.C w A l.length l) (hlen : l.length ≤ 9223372036854775807) : Calls Tryd.prog 26 #[.slice A l.length c] w fun e w' => e = .returned (.float .f64 (sumV l 0)) ∧ Below w.heap.size w w' := by
  obtain ⟨n, hn⟩ : ∃ n, n = l.length := ⟨_, rfl⟩
  have HR := Lib.hid hr
  have HN := Lib.hid hn
  rw [← hn] at hlen ⊢
  clear hr hn
  go_enter Tryd.func26, Tryd.ntmps26
  go_wp2
  go_loopg [3, 5, 8] n (fun gg s3 _ s8 wr => ∃ k s : Nat, k ≤ n ∧ n - k ≤ gg ∧ s8 = .int .i64 k ∧ s3 = .float .f64 s ∧ Aside (s = sumV (l.take k) 0) ∧ Aside (Below w.heap.size w wr))
  case atStart => exact ⟨0, 0, Nat.zero_le _, by omega, rfl, rfl, (show Aside _ from rfl), Below.refl _ w⟩
  case round =>
    obtain ⟨k, s, hk, hg, rfl, rfl, HS, BW⟩ := hrel
    by_cases hlt : k < n
    · have hlt' : k < l.length := by have := HN.out; omega
      obtain ⟨y, hy⟩ : ∃ y, l[k]? = some y := ⟨_, List.getElem?_eq_getElem hlt'⟩
      have HY := Lib.hid hy
      have hR := Kd.C_below HR.out BW.out
      obtain ⟨ad, hA, hc⟩ := hR.2.2 (by omega)
      obtain ⟨cs, hcl, hK, hcell⟩ := hc k y hy
      obtain rfl := kF_open hK
      have z0 := hcell 0 _ rfl
      rw [kF_sz, Nat.add_zero, Nat.mul_one] at z0
      (try clear hK)
      (try clear hcl)
      clear hc hcell hR hy
      subst hA
      obtain ⟨r, w1, hrun, hB, hg2⟩ := arith (P := Tryd.prog) .add (.inl rfl) 22 s y wr
      have HG := Lib.hid hg2
      have HB := Lib.hid (BW.out.trans (hB.mono BW.out.size))
      have H := Lib.hid (fun w => one_calls r w)
      clear hB hg2
      go_wp2_with (go_at_call 16; refine (H.out _).mono ?_; rintro e w' ⟨rfl, rfl⟩)
      go_roundg (n - (k + 1))
      case measure => omega
      case rel =>
        refine ⟨k + 1, oneN r, by omega, by omega, by go_num, rfl, (show Aside _ from ?_), HB.out⟩
        rw [sum_step l k y HY.out, ← HS.out]
        exact gives_one HG.out
    · obtain rfl : k = n := by omega
      go_wp2
      go_ret
      refine ⟨?_, BW.out⟩
      have := HN.out
      rw [HS.out, this, List.take_length]
      rfl
set_option maxHeartbeats 1600000 in
theorem rsum_calls (A : Option Addr) (c : Nat) (l : List Nat) (w : World) (hr : kF.C w A l.length l) (hlen : l.length ≤ 9223372036854775807) : Calls Tryd.prog 27 #[.slice A l.length c] w fun e w' => e = .returned (.int .u64 (sumV l 0 : Nat)) ∧ Below w.heap.size w w' := by
  obtain ⟨n, hn⟩ : ∃ n, n = l.length := ⟨_, rfl⟩
  have HR := Lib.hid hr
  have HN := Lib.hid hn
  rw [← hn] at hlen ⊢
  clear hr hn
  go_enter Tryd.func27, Tryd.ntmps27
  go_wp2
  go_loopg [3, 4] n (fun gg s3 s4 wr => ∃ k s : Nat, k ≤ n ∧ n - k ≤ gg ∧ s4 = .int .i64 k ∧ s3 = .float .f64 s ∧ Aside (oneN s = sumV (l.take k) 0 ∧ s < 18446744073709551616) ∧ Aside (Below w.heap.size w wr))
  case atStart => exact ⟨0, 0, Nat.zero_le _, by omega, rfl, rfl, (show Aside _ from ⟨by rw [List.take_zero]; decide, by decide⟩), Below.refl _ w⟩
  case round =>
    obtain ⟨k, s, hk, hg, rfl, rfl, HS, BW⟩ := hrel
    by_cases hlt : k < n
    · have hlt' : k < l.length := by have := HN.out; omega
      obtain ⟨y, hy⟩ : ∃ y, l[k]? = some y := ⟨_, List.getElem?_eq_getElem hlt'⟩
      have HY := Lib.hid hy
      have hR := Kd.C_below HR.out BW.out
      obtain ⟨ad, hA, hc⟩ := hR.2.2 (by omega)
      obtain ⟨cs, hcl, hK, hcell⟩ := hc k y hy
      obtain rfl := kF_open hK
      have z0 := hcell 0 _ rfl
      rw [kF_sz, Nat.add_zero, Nat.mul_one] at z0
      (try clear hK)
      (try clear hcl)
      clear hc hcell hR hy
      subst hA
      obtain ⟨r, w1, hrun, hB, hg2⟩ := arith (P := Tryd.prog) .add (.inl rfl) 22 s y wr
      have HG := Lib.hid hg2
      have HB := Lib.hid (BW.out.trans (hB.mono BW.out.size))
      clear hB hg2
      go_wp2
      go_roundg (n - (k + 1))
      case measure => omega
      case rel =>
        refine ⟨k + 1, r, by omega, by omega, by go_num, rfl, (show Aside _ from ⟨?_, HG.out.1⟩), HB.out⟩
        rw [sum_step l k y HY.out, ← HS.out.1, gives_one HG.out, arith_one]
    · obtain rfl : k = n := by omega
      have H := Lib.hid (fun w => rone_calls s HS.out.2 w)
      go_wp2_with (go_at_call 17; refine (H.out _).mono ?_; rintro e w' ⟨rfl, rfl⟩)
      go_ret
      refine ⟨?_, BW.out⟩
      have := HN.out
      rw [HS.out.1, this, List.take_length]
      rfl
end Go.Proofs.YtdkdmclbhcbfeaaDoor.Nu
