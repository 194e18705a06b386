/- The document's nearest whole number, walked. -/
import Derived.Test.YtdkdmclbhcbfeaaDoorD
import Derived.Test.YtdkdmclbhcbfeaaDoorWs
namespace Go.Proofs.YtdkdmclbhcbfeaaDoor.Nu
set_option linter.unusedVariables false
set_option linter.unusedSimpArgs false
open Go.RowKit Go.Proofs.YtdkdmclbhcbfeaaDoor.Fl
theorem u64_or52 (f : Int) (h0 : 0 ≤ f) (h1 : f < 4503599627370496) : Go.bits .or .u64 f 4503599627370496 = f + 4503599627370496 := by
  have h := bits_join .u64 64 (by decide) wraps_u64 52 4503599627370496 f (by decide) (by decide) (by decide) h0 h1 (by omega)
  obtain ⟨a, rfl⟩ := Int.eq_ofNat_of_zero_le h0
  have e1 := (bits_nat .u64 64 (by decide) wraps_u64 a 4503599627370496 (by omega) (by decide)).2
  have e2 := (bits_nat .u64 64 (by decide) wraps_u64 4503599627370496 a (by decide) (by omega)).2
  rw [Nat.or_comm] at e1
  have e3 := e1.trans e2.symm
  rw [show ((4503599627370496 : Nat) : Int) = 4503599627370496 from rfl] at e3
  rw [e3, h]
  omega
theorem w64_id {x : Int} (h : -9223372036854775808 ≤ x ∧ x < 9223372036854775808) : Go.RowKit.wrap64 x = x := by unfold Go.RowKit.wrap64; omega
theorem wneg {n : Nat} (h : n < 9223372036854775808) : Go.RowKit.wrap64 (n : Int) = n ∧ Go.RowKit.wrap64 (-(n : Int)) = -n := ⟨w64_id (by omega), w64_id (by omega)⟩
theorem u64_id {x : Int} (h : 0 ≤ x ∧ x < 18446744073709551616) : IntKind.u64.wrap x = x := wraps_u64 x h.1 (by have := h.2; omega)
set_option maxHeartbeats 1600000 in
set_option maxRecDepth 100000 in
theorem rint_calls (x : Nat) (h64 : x < 18446744073709551616) (w : World) : Calls Tryd.prog 30 #[.float .f64 x] w fun e w' => e = .returned (.tuple #[.int .i64 (intV x).1, .int .i64 (intV x).2]) ∧ w = w' := by
  have H := Lib.hid (fun w => rone_calls x h64 w)
  have HK := Lib.hid (fun w => rkind_calls x h64 w)
  by_cases hn : nan x = true
  · have hk : kind x = 9 := by unfold kind; rw [if_pos hn]
    have hv : intV x = (0, 3) := by unfold intV; rw [if_pos hn]
    rw [hv]
    rw [hk] at HK
    clear hk hv hn
    generalize ((oneN x : Nat) : Int) = o at H
    go_enter Tryd.func30, Tryd.ntmps30
    go_wp2_with (first | (go_at_call 17; refine (H.out _).mono ?_; rintro e w' ⟨rfl, rfl⟩) | (go_at_call 14; refine (HK.out _).mono ?_; rintro e w' ⟨rfl, rfl⟩))
    go_ret2
    exact ⟨by first | rfl | simp, rfl⟩
  have hn : nan x = false := by simpa using hn
  have hle : rung x ≤ 9218868437227405312 := by have := of_decide_eq_false hn; omega
  have ho : oneN x = x := by unfold oneN; rw [hn]; rfl
  rw [ho] at H
  by_cases hi : rung x = 9218868437227405312
  · have hv : intV x = (0, 4) := by unfold intV; rw [hn, if_neg (by decide), if_pos hi]
    have hk : kind x = 1 ∨ kind x = 8 := by
      unfold kind; rw [hn, if_neg (by decide), hi]
      have : kindP 9218868437227405312 = 8 := by decide
      rw [this]; split <;> simp
    rw [hv]
    generalize kind x = k at HK hk
    have d1 : (k == 9) = false := by rcases hk with h | h <;> rw [h] <;> decide
    clear hv hi hle ho hn
    cases d2 : (k == 1) with
    | true =>
      go_enter Tryd.func30, Tryd.ntmps30
      go_wp2_with (first | (go_at_call 17; refine (H.out _).mono ?_; rintro e w' ⟨rfl, rfl⟩) | (go_at_call 14; refine (HK.out _).mono ?_; rintro e w' ⟨rfl, rfl⟩))
      go_ret2
      exact ⟨by first | rfl | simp, rfl⟩
    | false =>
      have d3 : (k == 8) = true := by
        rcases hk with h | h
        · rw [h] at d2; cases d2
        · rw [h]; decide
      clear hk
      go_enter Tryd.func30, Tryd.ntmps30
      go_wp2_with (first | (go_at_call 17; refine (H.out _).mono ?_; rintro e w' ⟨rfl, rfl⟩) | (go_at_call 14; refine (HK.out _).mono ?_; rintro e w' ⟨rfl, rfl⟩))
      go_ret2
      exact ⟨by first | rfl | simp, rfl⟩
  have hk : kind x ≠ 9 ∧ kind x ≠ 1 ∧ kind x ≠ 8 := by
    unfold kind kindP; rw [hn]; simp only [Bool.false_eq_true, if_false]; repeat' split
    all_goals omega
  have hv : intV x = if intZ x < -9223372036854775808 ∨ 9223372036854775808 ≤ intZ x then (0, 4) else (intZ x, 0) := by unfold intV; rw [hn, if_neg (by decide), if_neg hi]
  have hz : intZ x = if 9223372036854775808 ≤ (x : Int) then -(wholeN x : Int) else (wholeN x : Int) := by
    unfold intZ; rw [sg_eq h64]
    by_cases c : 9223372036854775808 ≤ (x : Int)
    · rw [if_pos c, if_pos (by rw [beq_iff_eq]; omega)]
    · rw [if_neg c, if_neg (by rw [beq_iff_eq]; omega)]
  rw [hv, hz]
  clear hv hz
  generalize kind x = k at HK hk
  have d1 : (k == 9) = false := by simp [hk.1]
  have d2 : (k == 1) = false := by simp [hk.2.1]
  have d3 : (k == 8) = false := by simp [hk.2.2]
  clear hk ho
  have k1 := u64_and11 ((x : Int) / 4503599627370496) (by omega) (by omega)
  have k2 := u64_and52 (x : Int) (by omega) (by omega)
  rw [show (x : Int) / 4503599627370496 % 2048 = ((rung x / 4503599627370496 : Nat) : Int) by unfold rung; omega] at k1
  rw [show (x : Int) % 4503599627370496 = ((rung x % 4503599627370496 : Nat) : Int) by unfold rung; omega] at k2
  have wS := @whole_small x
  have wG := @whole_great x
  have wU := @whole_up x
  have wD := @whole_down x
  have hq : rung x / 4503599627370496 ≤ 2046 := by omega
  have hf : rung x % 4503599627370496 < 4503599627370496 := Nat.mod_lt _ (by decide)
  clear hle hi hn
  generalize rung x / 4503599627370496 = q at k1 hq wS wG wU wD
  generalize rung x % 4503599627370496 = f at k2 hf wU wD
  generalize wholeN x = N at wS wG wU wD ⊢
  have k3 := u64_or52 (f : Int) (by omega) (by omega)
  obtain ⟨m, hm⟩ : ∃ m : Nat, m = 4503599627370496 + f := ⟨_, rfl⟩
  rw [show (f : Int) + 4503599627370496 = (m : Int) by omega] at k3
  rw [← hm] at wU wD
  have hm1 : 4503599627370496 ≤ m ∧ m < 9007199254740992 := by omega
  clear hf hm
  have j1 : Go.RowKit.wrap64 (q : Int) = q := w64_id (by omega)
  have hx0 : (0 : Int) ≤ (x : Int) := by omega
  have hx1 : (x : Int) < 18446744073709551616 := by omega
  clear h64
  generalize (x : Int) = X at H k1 k2 hx0 hx1 ⊢
  obtain ⟨e, he⟩ : ∃ e : Int, e = q - 1075 := ⟨_, rfl⟩
  have he' : Go.RowKit.wrap64 ((q : Int) - 1075) = e := by rw [he]; exact w64_id (by omega)
  have he2 : Go.RowKit.wrap64 e = e := w64_id (by omega)
  by_cases c1 : e < -53
  · have b1 : decide (e < -53) = true := decide_eq_true c1
    have hN := wS (by omega)
    subst hN
    have hR : (if (if 9223372036854775808 ≤ X then -((0 : Nat) : Int) else ((0 : Nat) : Int)) < -9223372036854775808 ∨ 9223372036854775808 ≤ (if 9223372036854775808 ≤ X then -((0 : Nat) : Int) else ((0 : Nat) : Int)) then ((0 : Int), (4 : Int)) else (if 9223372036854775808 ≤ X then -((0 : Nat) : Int) else ((0 : Nat) : Int), 0)) = (0, 0) := by
      have : (if 9223372036854775808 ≤ X then -((0 : Nat) : Int) else ((0 : Nat) : Int)) = 0 := by split <;> rfl
      rw [this, if_neg (by omega)]
    rw [hR]
    clear hR c1 wG wU wD wS he hq hm1 hx0 hx1
    go_enter Tryd.func30, Tryd.ntmps30
    go_wp2_with (first | (go_at_call 17; refine (H.out _).mono ?_; rintro e w' ⟨rfl, rfl⟩) | (go_at_call 14; refine (HK.out _).mono ?_; rintro e w' ⟨rfl, rfl⟩))
    go_ret2
    exact ⟨by first | rfl | simp, rfl⟩
  have b1 : decide (e < -53) = false := decide_eq_false c1
  by_cases c2 : 12 ≤ e
  · have b2 : decide (12 ≤ e) = true := decide_eq_true c2
    have hN := wG (by omega)
    have hR : (if (if 9223372036854775808 ≤ X then -(N : Int) else (N : Int)) < -9223372036854775808 ∨ 9223372036854775808 ≤ (if 9223372036854775808 ≤ X then -(N : Int) else (N : Int)) then ((0 : Int), (4 : Int)) else (if 9223372036854775808 ≤ X then -(N : Int) else (N : Int), 0)) = (0, 4) := by
      refine if_pos ?_
      split <;> omega
    rw [hR]
    clear hR hN c1 c2 wG wU wD wS he hq hm1 hx0 hx1
    go_enter Tryd.func30, Tryd.ntmps30
    go_wp2_with (first | (go_at_call 17; refine (H.out _).mono ?_; rintro e w' ⟨rfl, rfl⟩) | (go_at_call 14; refine (HK.out _).mono ?_; rintro e w' ⟨rfl, rfl⟩))
    go_ret2
    exact ⟨by first | rfl | simp, rfl⟩
  have b2 : decide (12 ≤ e) = false := decide_eq_false c2
  clear wS wG
  by_cases c3 : 0 ≤ e
  · have b3 : decide (0 ≤ e) = true := decide_eq_true c3
    obtain ⟨en, hen⟩ : ∃ en : Nat, e = en := ⟨e.toNat, by omega⟩
    have hN := wU (e := en) (by omega)
    have hen2 : en ≤ 11 := by omega
    clear wU wD
    have f1 : IntKind.u64.wrap e = e := u64_id (by omega)
    have hP : 2 ^ en ≤ 2 ^ 11 := Nat.pow_le_pow_right (by decide) hen2
    have hP10 : en ≤ 10 → 2 ^ en ≤ 2 ^ 10 := fun h => Nat.pow_le_pow_right (by decide) h
    have hP11 : en = 11 → 2 ^ en = 2048 := fun h => by rw [h]
    have hpc : ((2 : Int) ^ min e.toNat 64) = ((2 ^ en : Nat) : Int) := by
      rw [show min e.toNat 64 = en by omega]; exact (Int.natCast_pow 2 en).symm
    have hNb : N < 18446744073709551616 := by
      rw [hN]
      have : m * 2 ^ en ≤ m * 2 ^ 11 := Nat.mul_le_mul_left _ hP
      omega
    have f2 : IntKind.u64.wrap ((m : Int) * 2 ^ min e.toNat 64) = (N : Int) := by rw [hpc, hN, ← Int.natCast_mul, ← hN]; exact u64_id (by omega)
    have hpc2 : ((2 : Int) ^ e.toNat) = ((2 ^ en : Nat) : Int) := by rw [show e.toNat = en by omega]; exact (Int.natCast_pow 2 en).symm
    have f2b : IntKind.u64.wrap ((m : Int) * 2 ^ e.toNat) = (N : Int) := by rw [hpc2, hN, ← Int.natCast_mul, ← hN]; exact u64_id (by omega)
    have hE0 : 0 ≤ e := c3
    clear hpc hpc2 f1
    have f1 : IntKind.u64.wrap e = e := u64_id (by omega)
    have hN11 : en = 11 → N = m * 2048 := fun h => by rw [hN, hP11 h]
    have hN10 : en ≤ 10 → N < 9223372036854775808 := fun h => by
      rw [hN]
      have : m * 2 ^ en ≤ m * 2 ^ 10 := Nat.mul_le_mul_left _ (hP10 h)
      omega
    clear hN hP hP10 hP11
    by_cases ce : e = 11
    · have d4 : (e == 11) = true := by simp [ce]
      have hN := hN11 (by omega)
      by_cases cs : 9223372036854775808 ≤ X
      · have d5 : decide (9223372036854775808 ≤ X) = true := decide_eq_true cs
        by_cases cm : (m : Int) = 4503599627370496
        · have d6 : ((m : Int) == 4503599627370496) = true := by simp [cm]
          have hNv : (N : Int) = 9223372036854775808 := by omega
          have hR : (if (if 9223372036854775808 ≤ X then -(N : Int) else (N : Int)) < -9223372036854775808 ∨ 9223372036854775808 ≤ (if 9223372036854775808 ≤ X then -(N : Int) else (N : Int)) then ((0 : Int), (4 : Int)) else (if 9223372036854775808 ≤ X then -(N : Int) else (N : Int), 0)) = ((-9223372036854775808), 0) := by
            have h1 : (if 9223372036854775808 ≤ X then -(N : Int) else (N : Int)) = (-9223372036854775808) := by split <;> omega
            rw [h1, if_neg (by omega)]
          rw [hR]
          clear hR
          have g1 : Go.RowKit.wrap64 (N : Int) = -9223372036854775808 := by rw [hNv]; unfold Go.RowKit.wrap64; omega
          have g2 : Go.RowKit.wrap64 (-(-9223372036854775808)) = -9223372036854775808 := by unfold Go.RowKit.wrap64; omega
          have g3 : Go.RowKit.wrap64 9223372036854775808 = -9223372036854775808 := by unfold Go.RowKit.wrap64; omega
          clear hNv hN cm cs
          clear hN11 hN10 hen hen2 hNb he hq hm1 c1 c2 c3 ce
          generalize (m : Int) = mm at k3 f2 f2b d6
          generalize (N : Int) = NN at f2 f2b g1
          generalize (q : Int) = qq at k1 j1 he'
          go_enter Tryd.func30, Tryd.ntmps30
          go_wp2_with (first | (go_at_call 17; refine (H.out _).mono ?_; rintro e w' ⟨rfl, rfl⟩) | (go_at_call 14; refine (HK.out _).mono ?_; rintro e w' ⟨rfl, rfl⟩))
          all_goals go_ret2
          all_goals exact ⟨by first | rfl | (simp; done) | (simp [*]; done), rfl⟩
        · have d6 : ((m : Int) == 4503599627370496) = false := by simp [cm]
          have hR : (if (if 9223372036854775808 ≤ X then -(N : Int) else (N : Int)) < -9223372036854775808 ∨ 9223372036854775808 ≤ (if 9223372036854775808 ≤ X then -(N : Int) else (N : Int)) then ((0 : Int), (4 : Int)) else (if 9223372036854775808 ≤ X then -(N : Int) else (N : Int), 0)) = (0, 4) := by
            refine if_pos ?_
            split <;> omega
          rw [hR]
          clear hR
          clear hN cm cs
          clear hN11 hN10 hen hen2 hNb he hq hm1 c1 c2 c3 ce
          generalize (m : Int) = mm at k3 f2 f2b d6
          generalize (N : Int) = NN at f2 f2b
          generalize (q : Int) = qq at k1 j1 he'
          go_enter Tryd.func30, Tryd.ntmps30
          go_wp2_with (first | (go_at_call 17; refine (H.out _).mono ?_; rintro e w' ⟨rfl, rfl⟩) | (go_at_call 14; refine (HK.out _).mono ?_; rintro e w' ⟨rfl, rfl⟩))
          all_goals go_ret2
          all_goals exact ⟨by first | rfl | (simp; done) | (simp [*]; done), rfl⟩
      · have d5 : decide (9223372036854775808 ≤ X) = false := decide_eq_false cs
        have hR : (if (if 9223372036854775808 ≤ X then -(N : Int) else (N : Int)) < -9223372036854775808 ∨ 9223372036854775808 ≤ (if 9223372036854775808 ≤ X then -(N : Int) else (N : Int)) then ((0 : Int), (4 : Int)) else (if 9223372036854775808 ≤ X then -(N : Int) else (N : Int), 0)) = (0, 4) := by
          refine if_pos ?_
          split <;> omega
        rw [hR]
        clear hR
        clear hN cs
        clear hN11 hN10 hen hen2 hNb he hq hm1 c1 c2 c3 ce
        generalize (m : Int) = mm at k3 f2 f2b
        generalize (N : Int) = NN at f2 f2b
        generalize (q : Int) = qq at k1 j1 he'
        go_enter Tryd.func30, Tryd.ntmps30
        go_wp2_with (first | (go_at_call 17; refine (H.out _).mono ?_; rintro e w' ⟨rfl, rfl⟩) | (go_at_call 14; refine (HK.out _).mono ?_; rintro e w' ⟨rfl, rfl⟩))
        all_goals go_ret2
        all_goals exact ⟨by first | rfl | (simp; done) | (simp [*]; done), rfl⟩
    · have d4 : (e == 11) = false := by simp [ce]
      have hN := hN10 (by omega)
      by_cases cs : 9223372036854775808 ≤ X
      · have d5 : decide (9223372036854775808 ≤ X) = true := decide_eq_true cs
        have hR : (if (if 9223372036854775808 ≤ X then -(N : Int) else (N : Int)) < -9223372036854775808 ∨ 9223372036854775808 ≤ (if 9223372036854775808 ≤ X then -(N : Int) else (N : Int)) then ((0 : Int), (4 : Int)) else (if 9223372036854775808 ≤ X then -(N : Int) else (N : Int), 0)) = ((-(N : Int)), 0) := by
          have h1 : (if 9223372036854775808 ≤ X then -(N : Int) else (N : Int)) = (-(N : Int)) := by split <;> omega
          rw [h1, if_neg (by omega)]
        rw [hR]
        clear hR
        have g1 := (wneg hN).1
        have g2 := (wneg hN).2
        clear hN cs
        clear hN11 hN10 hen hen2 hNb he hq hm1 c1 c2 c3 ce
        generalize (m : Int) = mm at k3 f2 f2b
        generalize (N : Int) = NN at f2 f2b g1 g2 ⊢
        generalize (q : Int) = qq at k1 j1 he'
        go_enter Tryd.func30, Tryd.ntmps30
        go_wp2_with (first | (go_at_call 17; refine (H.out _).mono ?_; rintro e w' ⟨rfl, rfl⟩) | (go_at_call 14; refine (HK.out _).mono ?_; rintro e w' ⟨rfl, rfl⟩))
        all_goals go_ret2
        all_goals exact ⟨by first | rfl | (simp; done) | (simp [*]; done), rfl⟩
      · have d5 : decide (9223372036854775808 ≤ X) = false := decide_eq_false cs
        have hR : (if (if 9223372036854775808 ≤ X then -(N : Int) else (N : Int)) < -9223372036854775808 ∨ 9223372036854775808 ≤ (if 9223372036854775808 ≤ X then -(N : Int) else (N : Int)) then ((0 : Int), (4 : Int)) else (if 9223372036854775808 ≤ X then -(N : Int) else (N : Int), 0)) = ((N : Int), 0) := by
          have h1 : (if 9223372036854775808 ≤ X then -(N : Int) else (N : Int)) = (N : Int) := by split <;> omega
          rw [h1, if_neg (by omega)]
        rw [hR]
        clear hR
        have g1 := (wneg hN).1
        clear hN cs
        clear hN11 hN10 hen hen2 hNb he hq hm1 c1 c2 c3 ce
        generalize (m : Int) = mm at k3 f2 f2b
        generalize (N : Int) = NN at f2 f2b g1 ⊢
        generalize (q : Int) = qq at k1 j1 he'
        go_enter Tryd.func30, Tryd.ntmps30
        go_wp2_with (first | (go_at_call 17; refine (H.out _).mono ?_; rintro e w' ⟨rfl, rfl⟩) | (go_at_call 14; refine (HK.out _).mono ?_; rintro e w' ⟨rfl, rfl⟩))
        all_goals go_ret2
        all_goals exact ⟨by first | rfl | (simp; done) | (simp [*]; done), rfl⟩
  · have b3 : decide (0 ≤ e) = false := decide_eq_false c3
    obtain ⟨c, hc⟩ : ∃ c : Nat, (c : Int) = -e := ⟨(-e).toNat, by omega⟩
    have hc1 : 1 ≤ c := by omega
    have hc2 : c ≤ 53 := by omega
    have hN := wD (c := c) (by omega) hc1 hc2
    clear wU wD
    have hpw : 2 ^ c = 2 * 2 ^ (c - 1) := by
      have : 2 ^ c = 2 ^ (c - 1 + 1) := by rw [Nat.sub_add_cancel hc1]
      rw [this, Nat.pow_succ, Nat.mul_comm]
    have hpb : 2 ^ c ≤ 2 ^ 53 := Nat.pow_le_pow_right (by decide) hc2
    have hi1 : ((2 : Int) ^ min ((c : Int)).toNat 64) = ((2 ^ c : Nat) : Int) := by
      rw [show min ((c : Int)).toNat 64 = c by omega]; exact (Int.natCast_pow 2 c).symm
    have hi2 : ((2 : Int) ^ min ((c : Int) - 1).toNat 64) = ((2 ^ (c - 1) : Nat) : Int) := by
      rw [show min ((c : Int) - 1).toNat 64 = c - 1 by omega]; exact (Int.natCast_pow 2 (c - 1)).symm
    have hpos : 0 < 2 ^ (c - 1) := Nat.two_pow_pos _
    generalize 2 ^ (c - 1) = hh at hpw hi2 hpos
    generalize 2 ^ c = pw at hN hpw hpb hi1
    have hdm := Nat.div_add_mod m pw
    have hml := Nat.mod_lt m (show pw > 0 by omega)
    have hn0 : m / pw ≤ m / 2 := Nat.div_le_div_left (by omega) (by decide)
    have cd : (m : Int) / (pw : Int) = ((m / pw : Nat) : Int) := (Int.natCast_ediv m pw).symm
    generalize m / pw = d at hN hdm hn0 cd
    generalize m % pw = rr at hN hdm hml
    obtain ⟨tn, htn⟩ : ∃ tn, tn = pw * d := ⟨_, rfl⟩
    rw [← htn] at hdm
    have f1 : IntKind.u64.wrap (Go.RowKit.wrap64 (-e)) = (c : Int) := by rw [← hc, w64_id (by omega)]; exact u64_id (by omega)
    have f2 : (m : Int) / 2 ^ min ((c : Int)).toNat 64 = (d : Int) := by rw [hi1, cd]
    have f3 : IntKind.u64.wrap ((d : Int) * 2 ^ min ((c : Int)).toNat 64) = (tn : Int) := by
      rw [hi1, ← Int.natCast_mul, Nat.mul_comm, ← htn]; exact u64_id (by omega)
    have f4 : IntKind.u64.wrap ((m : Int) - tn) = (rr : Int) := by rw [show (m : Int) - tn = rr by omega]; exact u64_id (by omega)
    obtain ⟨cm, ecm⟩ : ∃ cm : Int, cm = (c : Int) - 1 := ⟨_, rfl⟩
    have f5 : IntKind.u64.wrap ((c : Int) - 1) = cm := by rw [ecm]; exact u64_id (by omega)
    have f6 : IntKind.u64.wrap (2 ^ min cm.toNat 64) = (hh : Int) := by rw [ecm, hi2]; exact u64_id (by omega)
    have f2b : (m : Int) / 2 ^ ((c : Int)).toNat = (d : Int) := by rw [← cd, show ((c : Int)).toNat = min ((c : Int)).toNat 64 by omega, hi1]
    have f3b : IntKind.u64.wrap ((d : Int) * 2 ^ ((c : Int)).toNat) = (tn : Int) := by
      rw [show ((c : Int)).toNat = min ((c : Int)).toNat 64 by omega]; exact f3
    have f6b : IntKind.u64.wrap (2 ^ cm.toNat) = (hh : Int) := by
      rw [show cm.toNat = min cm.toNat 64 by omega]; exact f6
    have hC0 : (0 : Int) ≤ (c : Int) := by omega
    have hC1 : 0 ≤ cm := by omega
    have f7 : IntKind.u64.wrap ((d : Int) + 1) = (d : Int) + 1 := u64_id (by omega)
    have hNi : (N : Int) = (d : Int) + if (hh : Int) < rr ∨ (hh : Int) = rr ∧ (d : Int) % 2 = 1 then 1 else 0 := by
      have e1 : (decide (pw < 2 * rr) || (decide (pw = 2 * rr) && decide (d % 2 = 1))) = decide ((hh : Int) < rr ∨ (hh : Int) = rr ∧ (d : Int) % 2 = 1) := by
        rw [Bool.eq_iff_iff]
        simp only [Bool.or_eq_true, Bool.and_eq_true, decide_eq_true_eq]
        omega
      rw [hN, e1]
      by_cases cc : (hh : Int) < rr ∨ (hh : Int) = rr ∧ (d : Int) % 2 = 1
      · rw [decide_eq_true cc, if_pos cc]; show ((d + 1 : Nat) : Int) = _; omega
      · rw [decide_eq_false cc, if_neg cc]; show ((d + 0 : Nat) : Int) = _; omega
    have hnb : 0 ≤ (d : Int) ∧ (d : Int) ≤ 4503599627370496 := by omega
    clear hN hpw hpb hi1 hi2 hpos hdm hml hn0 cd htn ecm hc1 hc2 he hq hm1 c1 c2 c3
    generalize (d : Int) = n0 at f2 f2b f3 f3b f7 hNi hnb
    generalize (rr : Int) = r at f4 hNi
    generalize (hh : Int) = half at f6 f6b hNi
    generalize (tn : Int) = t at f3 f3b f4
    have q1 : Go.RowKit.wrap64 n0 = n0 := w64_id (by omega)
    have q2 : Go.RowKit.wrap64 (n0 + 1) = n0 + 1 := w64_id (by omega)
    have q3 : Go.RowKit.wrap64 (-n0) = -n0 := w64_id (by omega)
    have q4 : Go.RowKit.wrap64 (-(n0 + 1)) = -(n0 + 1) := w64_id (by omega)
    generalize (m : Int) = mm at k3 f2 f2b f4
    generalize (c : Int) = cc at f1 f2 f2b f3 f3b f5 hc hC0
    generalize (q : Int) = qq at k1 j1 he'
    generalize (N : Int) = NN at hNi ⊢
    clear hc
    by_cases cs : 9223372036854775808 ≤ X <;> by_cases ch : half < r
    · have d5 : decide (9223372036854775808 ≤ X) = true := decide_eq_true cs
      have d7 : decide (half < r) = true := decide_eq_true ch
      rw [if_pos (.inl ch)] at hNi
      have hR : (if (if 9223372036854775808 ≤ X then -NN else NN) < -9223372036854775808 ∨ 9223372036854775808 ≤ (if 9223372036854775808 ≤ X then -NN else NN) then ((0 : Int), (4 : Int)) else (if 9223372036854775808 ≤ X then -NN else NN, 0)) = ((-(n0 + 1)), 0) := by
        have h1 : (if 9223372036854775808 ≤ X then -NN else NN) = (-(n0 + 1)) := by split <;> omega
        rw [h1, if_neg (by omega)]
      rw [hR]
      clear hR
      clear hNi hnb cs ch
      go_enter Tryd.func30, Tryd.ntmps30
      go_wp2_with (first | (go_at_call 17; refine (H.out _).mono ?_; rintro e w' ⟨rfl, rfl⟩) | (go_at_call 14; refine (HK.out _).mono ?_; rintro e w' ⟨rfl, rfl⟩))
      all_goals go_ret2
      all_goals exact ⟨by first | rfl | (simp; done) | (simp [*]; done), rfl⟩
    · have d5 : decide (9223372036854775808 ≤ X) = true := decide_eq_true cs
      have d7 : decide (half < r) = false := decide_eq_false ch
      by_cases cr : r = half
      · have d8 : (r == half) = true := by simp [cr]
        by_cases co : n0 % 2 = 1
        · have d9 : (n0.tmod 2 == 1) = true := by rw [Int.tmod_eq_emod_of_nonneg hnb.1]; simp [co]
          rw [if_pos (.inr ⟨cr.symm, co⟩)] at hNi
          have hR : (if (if 9223372036854775808 ≤ X then -NN else NN) < -9223372036854775808 ∨ 9223372036854775808 ≤ (if 9223372036854775808 ≤ X then -NN else NN) then ((0 : Int), (4 : Int)) else (if 9223372036854775808 ≤ X then -NN else NN, 0)) = ((-(n0 + 1)), 0) := by
            have h1 : (if 9223372036854775808 ≤ X then -NN else NN) = (-(n0 + 1)) := by split <;> omega
            rw [h1, if_neg (by omega)]
          rw [hR]
          clear hR
          clear hNi hnb cs ch cr co
          go_enter Tryd.func30, Tryd.ntmps30
          go_wp2_with (first | (go_at_call 17; refine (H.out _).mono ?_; rintro e w' ⟨rfl, rfl⟩) | (go_at_call 14; refine (HK.out _).mono ?_; rintro e w' ⟨rfl, rfl⟩))
          all_goals go_ret2
          all_goals exact ⟨by first | rfl | (simp; done) | (simp [*]; done), rfl⟩
        · have d9 : (n0.tmod 2 == 1) = false := by rw [Int.tmod_eq_emod_of_nonneg hnb.1]; simp [co]
          rw [if_neg (by omega)] at hNi
          have hR : (if (if 9223372036854775808 ≤ X then -NN else NN) < -9223372036854775808 ∨ 9223372036854775808 ≤ (if 9223372036854775808 ≤ X then -NN else NN) then ((0 : Int), (4 : Int)) else (if 9223372036854775808 ≤ X then -NN else NN, 0)) = ((-n0), 0) := by
            have h1 : (if 9223372036854775808 ≤ X then -NN else NN) = (-n0) := by split <;> omega
            rw [h1, if_neg (by omega)]
          rw [hR]
          clear hR
          clear hNi hnb cs ch cr co
          go_enter Tryd.func30, Tryd.ntmps30
          go_wp2_with (first | (go_at_call 17; refine (H.out _).mono ?_; rintro e w' ⟨rfl, rfl⟩) | (go_at_call 14; refine (HK.out _).mono ?_; rintro e w' ⟨rfl, rfl⟩))
          all_goals go_ret2
          all_goals exact ⟨by first | rfl | (simp; done) | (simp [*]; done), rfl⟩
      · have d8 : (r == half) = false := by simp [cr]
        rw [if_neg (by omega)] at hNi
        have hR : (if (if 9223372036854775808 ≤ X then -NN else NN) < -9223372036854775808 ∨ 9223372036854775808 ≤ (if 9223372036854775808 ≤ X then -NN else NN) then ((0 : Int), (4 : Int)) else (if 9223372036854775808 ≤ X then -NN else NN, 0)) = ((-n0), 0) := by
          have h1 : (if 9223372036854775808 ≤ X then -NN else NN) = (-n0) := by split <;> omega
          rw [h1, if_neg (by omega)]
        rw [hR]
        clear hR
        clear hNi hnb cs ch cr
        go_enter Tryd.func30, Tryd.ntmps30
        go_wp2_with (first | (go_at_call 17; refine (H.out _).mono ?_; rintro e w' ⟨rfl, rfl⟩) | (go_at_call 14; refine (HK.out _).mono ?_; rintro e w' ⟨rfl, rfl⟩))
        all_goals go_ret2
        all_goals exact ⟨by first | rfl | (simp; done) | (simp [*]; done), rfl⟩
    · have d5 : decide (9223372036854775808 ≤ X) = false := decide_eq_false cs
      have d7 : decide (half < r) = true := decide_eq_true ch
      rw [if_pos (.inl ch)] at hNi
      have hR : (if (if 9223372036854775808 ≤ X then -NN else NN) < -9223372036854775808 ∨ 9223372036854775808 ≤ (if 9223372036854775808 ≤ X then -NN else NN) then ((0 : Int), (4 : Int)) else (if 9223372036854775808 ≤ X then -NN else NN, 0)) = ((n0 + 1), 0) := by
        have h1 : (if 9223372036854775808 ≤ X then -NN else NN) = (n0 + 1) := by split <;> omega
        rw [h1, if_neg (by omega)]
      rw [hR]
      clear hR
      clear hNi hnb cs ch
      go_enter Tryd.func30, Tryd.ntmps30
      go_wp2_with (first | (go_at_call 17; refine (H.out _).mono ?_; rintro e w' ⟨rfl, rfl⟩) | (go_at_call 14; refine (HK.out _).mono ?_; rintro e w' ⟨rfl, rfl⟩))
      all_goals go_ret2
      all_goals exact ⟨by first | rfl | (simp; done) | (simp [*]; done), rfl⟩
    · have d5 : decide (9223372036854775808 ≤ X) = false := decide_eq_false cs
      have d7 : decide (half < r) = false := decide_eq_false ch
      by_cases cr : r = half
      · have d8 : (r == half) = true := by simp [cr]
        by_cases co : n0 % 2 = 1
        · have d9 : (n0.tmod 2 == 1) = true := by rw [Int.tmod_eq_emod_of_nonneg hnb.1]; simp [co]
          rw [if_pos (.inr ⟨cr.symm, co⟩)] at hNi
          have hR : (if (if 9223372036854775808 ≤ X then -NN else NN) < -9223372036854775808 ∨ 9223372036854775808 ≤ (if 9223372036854775808 ≤ X then -NN else NN) then ((0 : Int), (4 : Int)) else (if 9223372036854775808 ≤ X then -NN else NN, 0)) = ((n0 + 1), 0) := by
            have h1 : (if 9223372036854775808 ≤ X then -NN else NN) = (n0 + 1) := by split <;> omega
            rw [h1, if_neg (by omega)]
          rw [hR]
          clear hR
          clear hNi hnb cs ch cr co
          go_enter Tryd.func30, Tryd.ntmps30
          go_wp2_with (first | (go_at_call 17; refine (H.out _).mono ?_; rintro e w' ⟨rfl, rfl⟩) | (go_at_call 14; refine (HK.out _).mono ?_; rintro e w' ⟨rfl, rfl⟩))
          all_goals go_ret2
          all_goals exact ⟨by first | rfl | (simp; done) | (simp [*]; done), rfl⟩
        · have d9 : (n0.tmod 2 == 1) = false := by rw [Int.tmod_eq_emod_of_nonneg hnb.1]; simp [co]
          rw [if_neg (by omega)] at hNi
          have hR : (if (if 9223372036854775808 ≤ X then -NN else NN) < -9223372036854775808 ∨ 9223372036854775808 ≤ (if 9223372036854775808 ≤ X then -NN else NN) then ((0 : Int), (4 : Int)) else (if 9223372036854775808 ≤ X then -NN else NN, 0)) = (n0, 0) := by
            have h1 : (if 9223372036854775808 ≤ X then -NN else NN) = n0 := by split <;> omega
            rw [h1, if_neg (by omega)]
          rw [hR]
          clear hR
          clear hNi hnb cs ch cr co
          go_enter Tryd.func30, Tryd.ntmps30
          go_wp2_with (first | (go_at_call 17; refine (H.out _).mono ?_; rintro e w' ⟨rfl, rfl⟩) | (go_at_call 14; refine (HK.out _).mono ?_; rintro e w' ⟨rfl, rfl⟩))
          all_goals go_ret2
          all_goals exact ⟨by first | rfl | (simp; done) | (simp [*]; done), rfl⟩
      · have d8 : (r == half) = false := by simp [cr]
        rw [if_neg (by omega)] at hNi
        have hR : (if (if 9223372036854775808 ≤ X then -NN else NN) < -9223372036854775808 ∨ 9223372036854775808 ≤ (if 9223372036854775808 ≤ X then -NN else NN) then ((0 : Int), (4 : Int)) else (if 9223372036854775808 ≤ X then -NN else NN, 0)) = (n0, 0) := by
          have h1 : (if 9223372036854775808 ≤ X then -NN else NN) = n0 := by split <;> omega
          rw [h1, if_neg (by omega)]
        rw [hR]
        clear hR
        clear hNi hnb cs ch cr
        go_enter Tryd.func30, Tryd.ntmps30
        go_wp2_with (first | (go_at_call 17; refine (H.out _).mono ?_; rintro e w' ⟨rfl, rfl⟩) | (go_at_call 14; refine (HK.out _).mono ?_; rintro e w' ⟨rfl, rfl⟩))
        all_goals go_ret2
        all_goals exact ⟨by first | rfl | (simp; done) | (simp [*]; done), rfl⟩
end Go.Proofs.YtdkdmclbhcbfeaaDoor.Nu
