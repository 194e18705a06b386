/- More laws on kinds and order, walked. -/
import Derived.Test.YtdkdmclbhcbfeaaDoorLa
namespace Go.Proofs.YtdkdmclbhcbfeaaDoor.Nu
open Go.RowKit Go.Proofs.YtdkdmclbhcbfeaaDoor.Fl Go.Proofs.YtdkdmclbhcbfeaaDoorW.PrintWords Go.Proofs.YtdkdmclbhcbfeaaDoorW.PrintLast Go.Proofs.YtdkdmclbhcbfeaaDoorW.PrintMore
set_option linter.unusedVariables false
set_option linter.unusedSimpArgs false
set_option maxHeartbeats 3200000 in
set_option maxRecDepth 100000 in
theorem ints_walk (x : Nat) (w : World) (wx : (Lit.float .f64 x).wf = true) (hT : Tabs w) : Calls Tryd.prog 6 #[.float .f64 x] w fun e w' => e = .returned (.bool true) ∧ Below w.heap.size w w' := by
  have hx := wf_lt wx
  have H0 := Lib.hid (fixed_calls w hT)
  have H1 := Lib.hid (fun w => int_calls x hx w)
  have H2 := Lib.hid (fun w => rint_calls x hx w)
  generalize (intV x).1 = n at H1 H2
  generalize (intV x).2 = m at H1 H2
  clear hx wx hT
  go_enter Tryd.func6, Tryd.ntmps6
  go_wp2_with fail
  refine H0.out.mono ?_
  rintro e w1 ⟨rfl, hb⟩
  have HB := Lib.hid hb
  clear hb H0
  go_wp2_with fail
  refine (H1.out _).mono ?_
  rintro e w' ⟨rfl, rfl⟩
  go_wp2_with fail
  refine (H2.out _).mono ?_
  rintro e w' ⟨rfl, rfl⟩
  go_wp2
  go_ret
  exact ⟨by simp, HB.out⟩
theorem cmp3_iff (a b : Nat) : (cmp3 a b ≤ 0 ↔ rank a ≤ rank b) ∧ (0 ≤ cmp3 a b ↔ rank b ≤ rank a) := by
  unfold cmp3
  constructor
  all_goals (repeat' split)
  all_goals omega
set_option maxHeartbeats 3200000 in
set_option maxRecDepth 100000 in
theorem orders_walk (a b c : Nat) (w : World) (wa : (Lit.float .f64 a).wf = true) (wb : (Lit.float .f64 b).wf = true) (wc : (Lit.float .f64 c).wf = true) (hT : Tabs w) : Calls Tryd.prog 8 #[.float .f64 a, .float .f64 b, .float .f64 c] w fun e w' => e = .returned (.bool true) ∧ Below w.heap.size w w' := by
  have ha := wf_lt wa
  have hb := wf_lt wb
  have hc := wf_lt wc
  have H0 := Lib.hid (fixed_calls w hT)
  have H1 := Lib.hid (fun w => compare_calls a b ha hb w)
  have H2 := Lib.hid (fun w => compare_calls b c hb hc w)
  have H3 := Lib.hid (fun w => compare_calls a c ha hc w)
  have H4 := Lib.hid (fun w => one_calls a w)
  have H5 := Lib.hid (fun w => bits_calls (oneN a) w)
  have H6 := Lib.hid (fun w => one_calls b w)
  have H7 := Lib.hid (fun w => bits_calls (oneN b) w)
  have F1 : cmp3 a b ≤ 0 → cmp3 b c ≤ 0 → cmp3 a c ≤ 0 := by rw [(cmp3_iff a b).1, (cmp3_iff b c).1, (cmp3_iff a c).1]; omega
  have F2 : 0 ≤ cmp3 a b → 0 ≤ cmp3 b c → 0 ≤ cmp3 a c := by rw [(cmp3_iff a b).2, (cmp3_iff b c).2, (cmp3_iff a c).2]; omega
  have F3 : cmp3 a b = 0 ↔ oneN a = oneN b := by
    rw [← rank_inj ha hb]
    have h1 := (cmp3_iff a b).1
    have h2 := (cmp3_iff a b).2
    constructor
    · intro h; rw [h] at h1 h2; omega
    · intro h; omega
  have C1 := cmp3_cases a b
  have C2 := cmp3_cases b c
  have C3 := cmp3_cases a c
  generalize cmp3 a b = x at H1 F1 F2 F3 C1
  generalize cmp3 b c = y at H2 F1 F2 C2
  generalize cmp3 a c = z at H3 F1 F2 C3
  generalize oneN a = p at H4 H5 F3
  generalize oneN b = q at H6 H7 F3
  clear ha hb hc wa wb wc hT
  have HQ : ((p : Int) == (q : Int)) = (x == 0) := by
    apply Bool.eq_iff_iff.2
    rw [beq_iff_eq, beq_iff_eq]
    omega
  rcases C1 with rfl | rfl | rfl <;> rcases C2 with rfl | rfl | rfl <;> rcases C3 with rfl | rfl | rfl
  all_goals try (exfalso; omega)
  all_goals (
    clear F1 F2 F3
    go_enter Tryd.func8, Tryd.ntmps8
    go_wp2_with fail
    refine H0.out.mono ?_
    rintro e w1 ⟨rfl, hb⟩
    have HB := Lib.hid hb
    clear hb H0
    go_wp2_with fail
    refine (H1.out _).mono ?_
    rintro e w' ⟨rfl, rfl⟩
    go_wp2_with fail
    refine (H2.out _).mono ?_
    rintro e w' ⟨rfl, rfl⟩
    go_wp2_with fail
    refine (H3.out _).mono ?_
    rintro e w' ⟨rfl, rfl⟩
    go_wp2_with fail
    refine (H4.out _).mono ?_
    rintro e w' ⟨rfl, rfl⟩
    go_wp2_with fail
    refine (H5.out _).mono ?_
    rintro e w' ⟨rfl, rfl⟩
    go_wp2_with fail
    refine (H6.out _).mono ?_
    rintro e w' ⟨rfl, rfl⟩
    go_wp2_with fail
    refine (H7.out _).mono ?_
    rintro e w' ⟨rfl, rfl⟩
    go_wp2
    go_ret
    exact ⟨by simp [HQ], HB.out⟩)
end Go.Proofs.YtdkdmclbhcbfeaaDoor.Nu
