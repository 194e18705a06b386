/- The law on texts, walked. -/
import Derived.Test.YtdkdmclbhcbfeaaDoorLa
import Derived.Test.YtdkdmclbhcbfeaaDoorTr
import Derived.Test.YtdkdmclbhcbfeaaDoorRp
namespace Go.Proofs.YtdkdmclbhcbfeaaDoor.Nu
open Go.RowKit Go.Proofs.YtdkdmclbhcbfeaaDoor.Fl Go.Proofs.YtdkdmclbhcbfeaaDoorW.PrintWords Go.Proofs.YtdkdmclbhcbfeaaDoorW.PrintLast Go.Proofs.YtdkdmclbhcbfeaaDoorW.PrintMore
set_option linter.unusedVariables false
set_option linter.unusedSimpArgs false
theorem parseV_err (s : ByteArray) : (parseV s).2 = 0 ∨ (parseV s).2 = 2 := by
  unfold parseV
  split
  · split
    · exact .inl rfl
    · exact .inr rfl
  · exact .inr rfl
theorem parseV_lt (s : ByteArray) : (parseV s).1 < 18446744073709551616 := by
  unfold parseV
  split
  · split
    · rename_i h _; exact pU_lt h
    · decide
  · decide
set_option maxHeartbeats 3200000 in
set_option maxRecDepth 100000 in
theorem texts_walk (a : Nat) (s : ByteArray) (w : World) (wa : (Lit.float .f64 a).wf = true) (hs : s.size ≤ 140737488351232) (hT : Tabs w) : Calls Tryd.prog 7 #[.float .f64 a, .string s] w fun e w' => e = .returned (.bool true) ∧ Below w.heap.size w w' := by
  have ha := wf_lt wa
  have H0 := Lib.hid (fixed_calls w hT)
  have H1 := Lib.hid (fun W (h : Below w.heap.size w W) => print_calls a ha W (hT.below h).tz)
  have H2 := Lib.hid (fun W (h : Below w.heap.size w W) => parse_calls (hexS 16 (oneN a)) (by rw [hexS_size]; decide) W (hT.below h))
  have H3 := Lib.hid (fun W (h : Below w.heap.size w W) => parse_calls s (by omega) W (hT.below h))
  have H4 := Lib.hid (fun w => rparse_calls s w)
  have H5 := Lib.hid (fun w => rprint_calls a ha w)
  have H6 := Lib.hid (fun w => bits_calls (oneN a) w)
  have H7 := Lib.hid (fun w => rone_calls a ha w)
  have H8 := Lib.hid (fun w => bits_calls (parseV s).1 w)
  have H9 := Lib.hid (fun W (h : Below w.heap.size w W) => print_calls (parseV s).1 (parseV_lt s) W (hT.below h).tz)
  rw [parseV_hexS (one_lt ha) (one_one a)] at H2
  have FE := parseV_err s
  have FB := fun h => parseV_back (s := s) h
  generalize hexS 16 (oneN a) = t at H1 H2 H5
  generalize hexS 16 (oneN (parseV s).1) = u at H9 FB
  generalize (parseV s).1 = n at H3 H4 H8 H9
  generalize (parseV s).2 = q at H3 H4 FE FB
  generalize oneN a = o at H2 H6 H7
  clear ha wa hs hT
  have htt : (t.toList == t.toList) = true := by simp
  have FE2 := Lib.hid FE
  have FB2 := Lib.hid FB
  clear FE FB
  go_enter Tryd.func7, Tryd.ntmps7
  go_wp2_with fail
  refine H0.out.mono ?_
  rintro e w1 ⟨rfl, hb⟩
  have B1 := Lib.hid hb
  clear hb H0
  go_wp2_with fail
  refine (H1.out _ B1.out).mono ?_
  rintro e w2 ⟨rfl, hb⟩
  have B2 := Lib.hid (B1.out.trans (hb.mono B1.out.size))
  clear hb H1
  go_wp2_with fail
  refine (H2.out _ B2.out).mono ?_
  rintro e w3 ⟨rfl, hb⟩
  have B3 := Lib.hid (B2.out.trans (hb.mono B2.out.size))
  clear hb H2
  go_wp2_with fail
  refine (H3.out _ B3.out).mono ?_
  rintro e w4 ⟨rfl, hb⟩
  have B4 := Lib.hid (B3.out.trans (hb.mono B3.out.size))
  clear hb H3
  go_wp2_with fail
  refine (H4.out _).mono ?_
  rintro e w5 ⟨rfl, hb⟩
  have B5 := Lib.hid (B4.out.trans (hb.mono B4.out.size))
  clear hb H4
  go_wp2_with fail
  refine (H5.out _).mono ?_
  rintro e w6 ⟨rfl, hb⟩
  have B6 := Lib.hid (B5.out.trans (hb.mono B5.out.size))
  clear hb H5
  rcases FE2.out with rfl | rfl
  · obtain rfl := FB2.out rfl
    have huu : (u.toList == u.toList) = true := by simp
    clear FE2 FB2
    go_wp2_with fail
    refine (H6.out _).mono ?_
    rintro e w' ⟨rfl, rfl⟩
    go_wp2_with fail
    refine (H7.out _).mono ?_
    rintro e w' ⟨rfl, rfl⟩
    go_wp2_with fail
    refine (H8.out _).mono ?_
    rintro e w' ⟨rfl, rfl⟩
    go_wp2_with fail
    refine (H9.out _ B6.out).mono ?_
    rintro e w7 ⟨rfl, hb⟩
    have B7 := Lib.hid (B6.out.trans (hb.mono B6.out.size))
    clear hb H9
    go_wp2
    go_ret
    exact ⟨by simp, B7.out⟩
  · clear FE2 FB2
    go_wp2_with fail
    refine (H6.out _).mono ?_
    rintro e w' ⟨rfl, rfl⟩
    go_wp2_with fail
    refine (H7.out _).mono ?_
    rintro e w' ⟨rfl, rfl⟩
    go_wp2_with fail
    refine (H8.out _).mono ?_
    rintro e w' ⟨rfl, rfl⟩
    go_wp2
    go_ret
    exact ⟨by simp, B6.out⟩
end Go.Proofs.YtdkdmclbhcbfeaaDoor.Nu
