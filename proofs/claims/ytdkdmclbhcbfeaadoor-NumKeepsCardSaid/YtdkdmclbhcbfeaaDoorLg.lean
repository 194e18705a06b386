/- num.numbers, Least and Greatest, walked. -/
import Derived.Test.YtdkdmclbhcbfeaaDoorDe
import Derived.Test.YtdkdmclbhcbfeaaDoorSrt
import Derived.Test.YtdkdmclbhcbfeaaDoorNs
import Derived.Test.YtdkdmclbhcbfeaaDoorG
namespace Go.Proofs.YtdkdmclbhcbfeaaDoor.Nu
open Go.RowKit Go.Proofs.YtdkdmclbhcbfeaaDoor.Fl Go.Proofs.YtdkdmclbhcbfeaaDoorW.PrintWords Go.Proofs.YtdkdmclbhcbfeaaDoorW.PrintLast Go.Proofs.YtdkdmclbhcbfeaaDoorW.PrintMore
set_option linter.unusedVariables false
set_option linter.unusedSimpArgs false
def numsV (l : List Nat) : List Nat := (sortV l).filter (fun x => !nan x)
def leastV (l : List Nat) : Nat := (numsV l).headD 9221120237041090561
def greatV (l : List Nat) : Nat := (numsV l).getLastD 9221120237041090561
theorem rank_lt (b : Nat) (h : nan b = false) : rank b < 18446744073709551615 := by
  unfold rank
  rw [if_neg (by rw [h]; simp)]
  unfold nan at h
  rw [decide_eq_false_iff_not] at h
  split <;> omega
theorem nan_up (l : List Nat) (i j : Nat) (y z : Nat) (hij : i ≤ j) (hy : (sortV l)[i]? = some y) (hz : (sortV l)[j]? = some z) (hn : nan y = true) : nan z = true := by
  rcases Nat.eq_or_lt_of_le hij with e | hlt
  · subst e
    rw [hy] at hz
    cases hz
    exact hn
  · have hs := sortV_sorted l
    rw [List.pairwise_iff_getElem] at hs
    obtain ⟨h1, e1⟩ := List.getElem?_eq_some_iff.1 hy
    obtain ⟨h2, e2⟩ := List.getElem?_eq_some_iff.1 hz
    have := hs i j h1 h2 hlt
    rw [e1, e2] at this
    cases hq : nan z with
    | true => rfl
    | false =>
      have h3 := rank_lt z hq
      have : rank y = 18446744073709551615 := by unfold rank; rw [if_pos hn]
      omega
theorem numsV_length (l : List Nat) : (numsV l).length ≤ l.length := by
  unfold numsV
  have := List.length_filter_le (fun x => !nan x) (sortV l)
  rw [sortV_length] at this
  exact this
set_option maxHeartbeats 1600000 in
theorem numbers_calls (A : Option Addr) (c : Nat) (l : List Nat) (w : World) (hr : kF.C w A l.length l) (hl : ∀ x ∈ l, x < 18446744073709551616) (hlen : l.length * 8 ≤ 140737488355320) :
    Calls Tryd.prog 41 #[.slice A l.length c] w fun e w' => SomeF w (numsV l) e w' := by
  have HS := Lib.hid (nsort_calls A c l w hr hl hlen)
  have HL := Lib.hid (sortV_length l)
  have HP := Lib.hid (nan_up l)
  obtain ⟨n, hn⟩ : ∃ n, n = l.length := ⟨_, rfl⟩
  have HN := Lib.hid hn
  rw [← hn] at HS hlen ⊢
  clear hr hl hn
  go_enter Tryd.func41, Tryd.ntmps41
  go_wp2_with fail
  refine HS.out.mono ?_
  rintro e w1 ⟨v, rfl, hR, hb⟩
  have HD := Lib.hid (dele_calls hR (by rw [HL.out, ← HN.out]; omega) HP.out)
  have HB := Lib.hid hb
  have HO := Lib.hid (fun k hk => own_base_F hR (k := k) hk)
  clear hR hb HS
  go_wp2_with fail
  refine HD.out.mono ?_
  rintro e w2 ⟨v', rfl, hR2, hg2⟩
  have HR2 := Lib.hid hR2
  have HB2 := Lib.hid (below_grow HB.out hg2 HO.out)
  clear hR2 hg2 HD
  go_wp2
  go_ret
  exact ⟨_, rfl, HR2.out, HB2.out⟩
theorem one_nan : oneN 9221120237041090561 = 9221120237041090561 := by decide
theorem R_cell {w : World} {base n c : Nat} {A : Option Addr} {L : List Nat} (h : Kd.R kF 22 w base (fun _ => True) (.slice A n c) L) (i : Nat) (y : Nat) (hy : L[i]? = some y) : n = L.length ∧ ∃ g, A = some ⟨g, 0, none⟩ ∧ w.cell? ⟨g, i, none⟩ = some (.float .f64 y) := by
  obtain ⟨hU1, inner, ⟨hil, ho⟩, hri⟩ := h
  have hi := (List.getElem?_eq_some_iff.1 hy).1
  rcases ho with ⟨h0, h0'⟩ | ⟨g, cap, cur, h0, hg, hcur, hcap', hmax, hcs, htake⟩
  · omega
  · simp only [Value.slice.injEq] at h0
    obtain ⟨rfl, hU2, rfl⟩ := h0
    refine ⟨hU2, g, rfl, ?_⟩
    rw [blk_cell hcur]
    have i0 := inner_F hri i y hy
    rw [kF_sz] at htake
    rw [← htake, List.getElem?_take, if_pos (by omega)] at i0
    simpa using i0
set_option maxHeartbeats 1600000 in
theorem least_calls (A : Option Addr) (c : Nat) (l : List Nat) (w : World) (hr : kF.C w A l.length l) (hl : ∀ x ∈ l, x < 18446744073709551616) (hlen : l.length * 8 ≤ 140737488355320) :
    Calls Tryd.prog 22 #[.slice A l.length c] w fun e w' => e = .returned (.float .f64 (leastV l)) ∧ Below w.heap.size w w' := by
  have HS := Lib.hid (numbers_calls A c l w hr hl hlen)
  obtain ⟨n, hn⟩ : ∃ n, n = l.length := ⟨_, rfl⟩
  have HN := Lib.hid hn
  have HNL := Lib.hid (numsV_length l)
  have HV := Lib.hid (show leastV l = (numsV l).headD 9221120237041090561 from rfl)
  have H1 := Lib.hid (fun w => one_calls 9221120237041090561 w)
  have H2 := Lib.hid (fun w => nan_calls w)
  rw [one_nan] at H1
  rw [← hn] at HS hlen HNL ⊢
  generalize leastV l = ans at HV ⊢
  generalize numsV l = L at HS HNL HV
  clear hr hl hn
  go_enter Tryd.func22, Tryd.ntmps22
  go_wp2_with fail
  refine HS.out.mono ?_
  rintro e w1 ⟨v, rfl, hR, hb⟩
  have HB := Lib.hid hb
  clear hb HS
  obtain ⟨A1, c1, rfl, hC, hc⟩ := R_C hR
  clear hC hc
  rcases L with _ | ⟨y, L⟩
  · obtain rfl := HV.out
    clear hR
    simp only [List.length_nil]
    go_wp2_with (first | (go_at_call 42; refine (H2.out _).mono ?_; rintro e w' ⟨rfl, rfl⟩) | (go_at_call 16; refine (H1.out _).mono ?_; rintro e w' ⟨rfl, rfl⟩))
    go_ret
    exact ⟨rfl, HB.out⟩
  · obtain rfl := HV.out
    simp only [List.headD_cons, List.length_cons] at hR HNL ⊢
    obtain ⟨_, g, rfl, h0⟩ := R_cell hR 0 _ rfl
    have i0 : L.length + 1 ≤ n := HNL.out
    generalize L.length = m at hR i0 ⊢
    clear hR
    have i1 : (0 : Int) < (m : Int) + 1 := by omega
    go_wp2
    go_ret
    exact ⟨rfl, HB.out⟩
set_option maxHeartbeats 1600000 in
theorem greatest_calls (A : Option Addr) (c : Nat) (l : List Nat) (w : World) (hr : kF.C w A l.length l) (hl : ∀ x ∈ l, x < 18446744073709551616) (hlen : l.length * 8 ≤ 140737488355320) :
    Calls Tryd.prog 24 #[.slice A l.length c] w fun e w' => e = .returned (.float .f64 (greatV l)) ∧ Below w.heap.size w w' := by
  have HS := Lib.hid (numbers_calls A c l w hr hl hlen)
  obtain ⟨n, hn⟩ : ∃ n, n = l.length := ⟨_, rfl⟩
  have HN := Lib.hid hn
  have HNL := Lib.hid (numsV_length l)
  have HV := Lib.hid (show greatV l = (numsV l).getLastD 9221120237041090561 from rfl)
  have H1 := Lib.hid (fun w => one_calls 9221120237041090561 w)
  have H2 := Lib.hid (fun w => nan_calls w)
  rw [one_nan] at H1
  rw [← hn] at HS hlen HNL ⊢
  generalize greatV l = ans at HV ⊢
  generalize numsV l = L at HS HNL HV
  clear hr hl hn
  go_enter Tryd.func24, Tryd.ntmps24
  go_wp2_with fail
  refine HS.out.mono ?_
  rintro e w1 ⟨v, rfl, hR, hb⟩
  have HB := Lib.hid hb
  clear hb HS
  obtain ⟨A1, c1, rfl, hC, hc⟩ := R_C hR
  clear hC hc
  by_cases hz : L.length = 0
  · obtain rfl : L = [] := List.length_eq_zero_iff.1 hz
    obtain rfl := HV.out
    clear hR hz
    simp only [List.length_nil]
    go_wp2_with (first | (go_at_call 42; refine (H2.out _).mono ?_; rintro e w' ⟨rfl, rfl⟩) | (go_at_call 16; refine (H1.out _).mono ?_; rintro e w' ⟨rfl, rfl⟩))
    go_ret
    exact ⟨rfl, HB.out⟩
  · obtain ⟨m, hm⟩ : ∃ m, L.length = m + 1 := ⟨L.length - 1, by omega⟩
    have hlast : L[m]? = some ans := by
      rw [HV.out, List.getLastD_eq_getLast?, List.getLast?_eq_getElem?, hm, Nat.add_sub_cancel, List.getElem?_eq_getElem (by omega)]
      rfl
    obtain ⟨_, g, rfl, h0⟩ := R_cell hR m ans hlast
    rw [hm] at HNL
    have i0 : m + 1 ≤ n := HNL.out
    rw [hm]
    clear hR hz hm hlast HV HNL
    have i1 : (0 : Int) < (m : Int) + 1 := by omega
    go_wp2
    go_ret
    exact ⟨rfl, HB.out⟩
end Go.Proofs.YtdkdmclbhcbfeaaDoor.Nu
