/- The law on whole numbers, walked. -/
import Derived.Test.YtdkdmclbhcbfeaaDoorLa
import Derived.Test.YtdkdmclbhcbfeaaDoorWh
namespace Go.Proofs.YtdkdmclbhcbfeaaDoor.Nu
open Go.RowKit Go.Proofs.YtdkdmclbhcbfeaaDoor.Fl Go.Proofs.YtdkdmclbhcbfeaaDoorW.PrintWords Go.Proofs.YtdkdmclbhcbfeaaDoorW.PrintLast Go.Proofs.YtdkdmclbhcbfeaaDoorW.PrintMore
set_option linter.unusedVariables false
set_option linter.unusedSimpArgs false
theorem add_zero_bits (m : Int) (h1 : -4503599627370496 ≤ m) (h2 : m ≤ 4503599627370496) : floatBits .add .f64 0 (fN m) = some (fN m) ∧ floatBits .add .f64 (fN m) 0 = some (fN m) := by
  by_cases h0 : m = 0
  · subst h0
    decide +kernel
  · exact sum_zero (fN_wn m h1 h2) h0
theorem one_self {f : Nat} (h : nan f = false) : oneN f = f := by unfold oneN; rw [h]; rfl
theorem sum_two (m : Int) (h1 : -4503599627370496 ≤ m) (h2 : m ≤ 4503599627370496) : sumV [fN m, 0] 0 = fN m := by
  obtain ⟨e1, e2⟩ := add_zero_bits m h1 h2
  have hn := (fN_wn m h1 h2).nn
  show arithV .add (arithV .add 0 (fN m)) 0 = fN m
  have a1 : arithV .add 0 (fN m) = fN m := by unfold arithV; rw [e1]; exact one_self hn
  rw [a1]
  unfold arithV
  rw [e2]
  exact one_self hn
theorem b_sum2 (f : Nat) (W : World) : Calls Tryd.prog 26 #[.slice (some ⟨W.heap.size, 0, none⟩) 2 2] (W.alloc (.cells #[.float .f64 f, .float .f64 0] 22)) fun e w' => e = .returned (.float .f64 (sumV [f, 0] 0)) ∧ Below W.heap.size W w' :=
  (sum_calls (some ⟨W.heap.size, 0, none⟩) 2 [f, 0] _ (built_C W [f, 0] (by simp) _ rfl 22) (by simp)).mono fun e w' ⟨he, hb⟩ => ⟨he, up_alloc hb⟩
theorem gives_some {op : BinOp} {x y r g : Nat} (h : Gives op x y r) (e : floatBits op .f64 x y = some g) : r = g := by
  rcases h.2 with h | ⟨h, _⟩
  · rw [e] at h; exact (Option.some.inj h).symm
  · rw [e] at h; cases h
set_option maxHeartbeats 3200000 in
set_option maxRecDepth 100000 in
theorem wholes_walk (n : Int) (w : World) (wn : (Lit.int .i64 n).wf = true) (hT : Tabs w) : Calls Tryd.prog 11 #[.int .i64 n] w fun e w' => e = .returned (.bool true) ∧ Below w.heap.size w w' := by
  have hn : -9223372036854775808 ≤ n ∧ n ≤ 9223372036854775807 := by
    have h := wn
    simp [Lit.wf, IntKind.min, IntKind.max, IntKind.signed, IntKind.bits] at h
    omega
  obtain ⟨m, hm⟩ : ∃ m, m = n / 2048 := ⟨_, rfl⟩
  have m1 : -4503599627370496 ≤ m := by omega
  have m2 : m ≤ 4503599627370496 := by omega
  have hW := fN_wn m m1 m2
  have H0 := Lib.hid (fixed_calls w hT)
  have H1 := Lib.hid (fun w => int_calls (fN m) hW.lt w)
  rw [int_whole hW m1 m2] at H1
  have H2 := Lib.hid (fun w => rkind_calls (fN m) hW.lt w)
  have H3 := Lib.hid (fun w => kind_calls (fN m) hW.lt w)
  have H4 := Lib.hid (fun W => b_sum2 (fN m) W)
  rw [sum_two m m1 m2] at H4
  have HQ := Lib.hid (fun W => arith (P := Tryd.prog) .add (.inl rfl) 22 (fN m) 4598175219545276416 W)
  have HZ := Lib.hid (fun W => arith (P := Tryd.prog) .add (.inl rfl) 22 (fN m) 0 W)
  have FZ := Lib.hid (fun r (h : Gives .add (fN m) 0 r) => gives_some h (add_zero_bits m m1 m2).2)
  have FQ := Lib.hid (fun r (h : Gives .add (fN m) 4598175219545276416 r) (a : -1125899906842624 ≤ m) (b : m ≤ 1125899906842624) => (show intV r = (m, 0) from by
    obtain ⟨g, hg1, hg2, hg3⟩ := add_quarter hW a b (fun e => by subst e; decide)
    rw [gives_some h hg1]
    exact hg3))
  have HI := Lib.hid (fun r (h : r < 18446744073709551616) w => int_calls r h w)
  have hcv : ∀ w, (convert 2 22 (.int .i64 m)).run Tryd.prog w = .ok (.float .f64 (fN m)) w := fun w => run_convert_int_float w 2 22 .i64 .f64 m (by rw [Tryd.underlying2]; rfl) Tryd.underlying22
  generalize fN m = f at H1 H2 H3 H4 HQ HZ FZ FQ hcv
  generalize kind f = k at H2 H3
  have htb : ∀ w, (callFunc 35 #[.float .f64 f]).run Tryd.prog w = .ok (.value (.int .u64 f)) w := fun w => tobits f w
  have hm' : n / 2048 = m := hm.symm
  clear hm hn wn hT hW
  go_enter Tryd.func11, Tryd.ntmps11
  go_wp2_with fail
  refine H0.out.mono ?_
  rintro e w1 ⟨rfl, hb⟩
  have B1 := Lib.hid hb
  clear hb H0
  obtain ⟨r, w2, hrun, hb2, hg⟩ := HQ.out w1
  have B2 := Lib.hid (B1.out.trans (hb2.mono B1.out.size))
  have HR := Lib.hid (HI.out r hg.1)
  have FQ2 := Lib.hid (FQ.out r hg)
  clear hb2 hg HQ FQ HI
  go_wp2_with fail
  refine (H1.out _).mono ?_
  rintro e w' ⟨rfl, rfl⟩
  by_cases c1 : 1125899906842624 < m
  · generalize (intV r).1 = p1 at HR
    generalize (intV r).2 = p2 at HR
    clear FQ2
    go_wp2_with fail
    refine (HR.out _).mono ?_
    rintro e w' ⟨rfl, rfl⟩
    go_wp2_with fail
    refine (H2.out _).mono ?_
    rintro e w' ⟨rfl, rfl⟩
    go_wp2_with fail
    refine (H3.out _).mono ?_
    rintro e w' ⟨rfl, rfl⟩
    go_wp2_with fail
    refine (H4.out w2).mono ?_
    rintro e w3 ⟨rfl, hb⟩
    have B3 := Lib.hid (B2.out.trans (hb.mono B2.out.size))
    clear hb
    obtain ⟨r2, w4, hrun2, hb4, hg⟩ := HZ.out w3
    obtain rfl := FZ.out r2 hg
    have B4 := Lib.hid (B3.out.trans (hb4.mono B3.out.size))
    clear hb4 hg HZ FZ
    go_wp2
    go_ret
    exact ⟨by simp, B4.out⟩
  · by_cases c2 : m < -1125899906842624
    · generalize (intV r).1 = p1 at HR
      generalize (intV r).2 = p2 at HR
      clear FQ2
      go_wp2_with fail
      refine (HR.out _).mono ?_
      rintro e w' ⟨rfl, rfl⟩
      go_wp2_with fail
      refine (H2.out _).mono ?_
      rintro e w' ⟨rfl, rfl⟩
      go_wp2_with fail
      refine (H3.out _).mono ?_
      rintro e w' ⟨rfl, rfl⟩
      go_wp2_with fail
      refine (H4.out w2).mono ?_
      rintro e w3 ⟨rfl, hb⟩
      have B3 := Lib.hid (B2.out.trans (hb.mono B2.out.size))
      clear hb
      obtain ⟨r2, w4, hrun2, hb4, hg⟩ := HZ.out w3
      obtain rfl := FZ.out r2 hg
      have B4 := Lib.hid (B3.out.trans (hb4.mono B3.out.size))
      clear hb4 hg HZ FZ
      go_wp2
      go_ret
      exact ⟨by simp, B4.out⟩
    · rw [FQ2.out (by omega) (by omega)] at HR
      clear FQ2
      go_wp2_with fail
      refine (HR.out _).mono ?_
      rintro e w' ⟨rfl, rfl⟩
      go_wp2_with fail
      refine (H2.out _).mono ?_
      rintro e w' ⟨rfl, rfl⟩
      go_wp2_with fail
      refine (H3.out _).mono ?_
      rintro e w' ⟨rfl, rfl⟩
      go_wp2_with fail
      refine (H4.out w2).mono ?_
      rintro e w3 ⟨rfl, hb⟩
      have B3 := Lib.hid (B2.out.trans (hb.mono B2.out.size))
      clear hb
      obtain ⟨r2, w4, hrun2, hb4, hg⟩ := HZ.out w3
      obtain rfl := FZ.out r2 hg
      have B4 := Lib.hid (B3.out.trans (hb4.mono B3.out.size))
      clear hb4 hg HZ FZ
      go_wp2
      go_ret
      exact ⟨by simp, B4.out⟩
end Go.Proofs.YtdkdmclbhcbfeaaDoor.Nu
