/- A part of the proof of the statement PlanLands: words, contracts of functions that it reaches, and what they compute. No condition. -/
import Derived.Test.YtbmldeikjfecfaaE24
set_option linter.unusedVariables false
set_option linter.unusedSimpArgs false
namespace Go.Proofs.Ytbmldeikjfecfaa.Hd
open Go.RowKit Go.Proofs.Ytbmldeikjfecfaa.T Go.Proofs.YtbmldeikjfecfaaW.PrintWords Go.Proofs.YtbmldeikjfecfaaW.PrintLast Go.Proofs.YtbmldeikjfecfaaW.PrintMore
section
variable {hosts cyc dly win prec : Int} {A5 : Option Addr} {c5 : Nat} {ds : List (List Int)} {A6 : Option Addr} {c6 : Nat} {es : List S40} {A7 : Option Addr} {c7 : Nat} {ls : List S63} {q : Int}
def ChB (w : World) (C : Nat) (cv : Array Value) (W : World) : Prop := Below w.heap.size w W ∧ W.heap[C]? = some (.cells cv 26 (0, 0))
theorem ChB.below {w : World} {C : Nat} {cv : Array Value} {W W' : World} (h : ChB w C cv W) (hb : Below W.heap.size W W') : ChB w C cv W' := ⟨below_step h.1 hb, blk_below h.2 hb⟩
theorem ChB.cells {w : World} {C : Nat} {W : World} (h : ChB w C #[.int .i64 hosts, .int .i64 cyc, .int .i64 dly, .int .i64 win, .int .i64 prec, .slice A5 ds.length c5, .slice A6 es.length c6, .slice A7 ls.length c7, .int .i64 q] W) : W.cell? ⟨C, 0, none⟩ = some (.int .i64 hosts) ∧ W.cell? ⟨C, 1, none⟩ = some (.int .i64 cyc) ∧ W.cell? ⟨C, 2, none⟩ = some (.int .i64 dly) ∧ W.cell? ⟨C, 3, none⟩ = some (.int .i64 win) ∧ W.cell? ⟨C, 4, none⟩ = some (.int .i64 prec) ∧
    W.cell? ⟨C, 5, none⟩ = some (.slice A5 ds.length c5) ∧ W.cell? ⟨C, 6, none⟩ = some (.slice A6 es.length c6) ∧ W.cell? ⟨C, 7, none⟩ = some (.slice A7 ls.length c7) ∧ W.cell? ⟨C, 8, none⟩ = some (.int .i64 q) :=
  ⟨(blk_cell h.2 0).trans rfl, (blk_cell h.2 1).trans rfl, (blk_cell h.2 2).trans rfl, (blk_cell h.2 3).trans rfl, (blk_cell h.2 4).trans rfl, (blk_cell h.2 5).trans rfl, (blk_cell h.2 6).trans rfl, (blk_cell h.2 7).trans rfl, (blk_cell h.2 8).trans rfl⟩
theorem check_rest (h1 : 1 ≤ hosts ∧ hosts ≤ 6) (h2 : 1 ≤ cyc ∧ cyc ≤ 1073741824) (h3 : spansV cyc dly win prec = true) (h4 : (ds.length : Int) = hosts ∧ ds.all (rowV dly) = true) :
    checkV hosts cyc dly win prec ds es ls q = if schedV hosts cyc dly win prec es = 0 then (if 16 < ls.length ∨ ls.any (bad9 hosts) = true then 9 else if ¬(1 ≤ q ∧ q ≤ 64) then 10 else 0) else schedV hosts cyc dly win prec es := by
  unfold checkV schedV
  rw [if_neg (fun h => h h1), if_neg (fun h => h h2), if_neg (by rw [h3]; decide), if_neg (fun h => h h4)]
  by_cases c5 : 16 < es.length ∨ es.any (bad5 hosts) = true
  · rw [if_pos c5, if_pos c5, if_neg (by decide)]
  · rw [if_neg c5, if_neg c5]
    by_cases c6 : es.any (bad6 cyc dly win prec) = true
    · rw [if_pos c6, if_pos c6, if_neg (by decide)]
    · rw [if_neg c6, if_neg c6]
      by_cases c7 : pairsV es bad7 = true
      · rw [if_pos c7, if_pos c7, if_neg (by decide)]
      · rw [if_neg c7, if_neg c7]
        by_cases c8 : pairsV es (bad8 dly prec) = true
        · rw [if_pos c8, if_pos c8, if_neg (by decide)]
        · rw [if_neg c8, if_neg c8, if_pos rfl]
set_option maxHeartbeats 3200000 in
theorem check_calls (w : World) (hr5 : Kd.C (Kd.slice 2 (Kd.int .i64)) w A5 ds.length ds) (hc5 : ds.length ≤ c5) (hr6 : Kd.C k40 w A6 es.length es) (hc6 : es.length ≤ c6) (hr7 : Kd.C k63 w A7 ls.length ls) (hc7 : ls.length ≤ c7) (hs : sane hosts cyc dly win prec ds es ls q) :
    Calls Try.prog 45 #[.agg #[.int .i64 hosts, .int .i64 cyc, .int .i64 dly, .int .i64 win, .int .i64 prec, .slice A5 ds.length c5, .slice A6 es.length c6, .slice A7 ls.length c7, .int .i64 q]] w fun e w' => e = .returned (.int .i64 (checkV hosts cyc dly win prec ds es ls q)) ∧ Below w.heap.size w w' := by
  obtain ⟨_, _, _, _, _, _, hds, hes, hls, nd, ne, nl⟩ := hs
  have S0 := Lib.hid (show ChB w w.heap.size #[.int .i64 hosts, .int .i64 cyc, .int .i64 dly, .int .i64 win, .int .i64 prec, .slice A5 ds.length c5, .slice A6 es.length c6, .slice A7 ls.length c7, .int .i64 q] (w.alloc (.cells #[.int .i64 hosts, .int .i64 cyc, .int .i64 dly, .int .i64 win, .int .i64 prec, .slice A5 ds.length c5, .slice A6 es.length c6, .slice A7 ls.length c7, .int .i64 q] 26)) from ⟨below_alloc (Below.refl _ _) _, blk_new w _⟩)
  have gL : ∀ args w, (callFunc 59 args).run Try.prog w = .ok (.enter 59 args) w := ent Try.func59 (by kernel_rfl) rfl
  have H1 := Lib.hid (fun W => (conf_in.calls hosts 1 6 _ W (in_f hosts 1 6)).mono fun _ _ => dB)
  have H2 := Lib.hid (fun W => (conf_in.calls cyc 1 1073741824 _ W (in_f cyc 1 1073741824)).mono fun _ _ => dB)
  have H3 := Lib.hid (fun W (h : ChB w w.heap.size #[.int .i64 hosts, .int .i64 cyc, .int .i64 dly, .int .i64 win, .int .i64 prec, .slice A5 ds.length c5, .slice A6 es.length c6, .slice A7 ls.length c7, .int .i64 q] W) => (conf_spans.calls hosts cyc dly win prec A5 c5 ds A6 c6 es A7 c7 ls q _ W (Kd.C_below hr5 h.1) hc5 (Kd.C_below hr6 h.1) hc6 (Kd.C_below hr7 h.1) hc7 spans_f))
  have H4 := Lib.hid (fun W (h : ChB w w.heap.size #[.int .i64 hosts, .int .i64 cyc, .int .i64 dly, .int .i64 win, .int .i64 prec, .slice A5 ds.length c5, .slice A6 es.length c6, .slice A7 ls.length c7, .int .i64 q] W) => rows_calls (hosts := hosts) (cyc := cyc) (dly := dly) (win := win) (prec := prec) (q := q) W (Kd.C_below hr5 h.1) hc5 (Kd.C_below hr6 h.1) hc6 (Kd.C_below hr7 h.1) hc7 nd (fun l hl => (hds l hl).1))
  have H7 := Lib.hid (fun W => (conf_in.calls q 1 64 _ W (in_f q 1 64)).mono fun _ _ => dB)
  by_cases c1 : 1 ≤ hosts ∧ hosts ≤ 6
  · rw [decide_eq_true c1] at H1
    by_cases c2 : 1 ≤ cyc ∧ cyc ≤ 1073741824
    · rw [decide_eq_true c2] at H2
      cases c3 : spansV cyc dly win prec with
      | true =>
        rw [c3] at H3
        by_cases c4 : (ds.length : Int) = hosts ∧ ds.all (rowV dly) = true
        · rw [decide_eq_true c4.1, c4.2] at H4
          rw [check_rest c1 c2 c3 c4]
          have H5 := Lib.hid (fun W (h : ChB w w.heap.size #[.int .i64 hosts, .int .i64 cyc, .int .i64 dly, .int .i64 win, .int .i64 prec, .slice A5 ds.length c5, .slice A6 es.length c6, .slice A7 ls.length c7, .int .i64 q] W) => schedule_calls (hosts := hosts) (cyc := cyc) (dly := dly) (win := win) (prec := prec) (q := q) W (Kd.C_below hr5 h.1) hc5 (Kd.C_below hr6 h.1) hc6 (Kd.C_below hr7 h.1) hc7 ne hes c1.1 c1.2 c3)
          have H6 := Lib.hid (fun W (h : ChB w w.heap.size #[.int .i64 hosts, .int .i64 cyc, .int .i64 dly, .int .i64 win, .int .i64 prec, .slice A5 ds.length c5, .slice A6 es.length c6, .slice A7 ls.length c7, .int .i64 q] W) => containsL 59 #[.pointer (some ⟨w.heap.size, 0, none⟩)] gL A7 c7 ls (bad9 hosts) W (Kd.C_below hr7 h.1) nl (fun e he W' hW' => link_calls e w.heap.size W' (blk_below h.2 hW') (hls e he) c1.1 c1.2))
          generalize schedV hosts cyc dly win prec es = sv at H5 ⊢
          by_cases c5 : sv = 0
          · subst c5
            rw [if_pos rfl]
            by_cases c6 : 16 < ls.length
            · rw [if_pos (.inl c6)]
              have e6 : decide ((ls.length : Int) > 16) = true := by simp; omega
              have e6' : (16 : Int) < (ls.length : Int) := by omega
              clear c1 c2 c3 c4 H6 H7 gL hr5 hr6 hr7 hds hes hls
              go_enter Try.func45, Try.ntmps45
              go_wp2_with fail
              refine (H1.out _).mono ?_
              rintro e w' ⟨rfl, hB⟩
              have S1 := Lib.hid (S0.out.below hB)
              clear hB
              obtain ⟨zS1_0, zS1_1, zS1_2, zS1_3, zS1_4, zS1_5, zS1_6, zS1_7, zS1_8⟩ := S1.out.cells
              have lS1 := blk_lt S1.out.2
              go_wp2_with fail
              refine (H2.out _).mono ?_
              rintro e w' ⟨rfl, hB⟩
              have S2 := Lib.hid (S1.out.below hB)
              clear hB
              obtain ⟨zS2_0, zS2_1, zS2_2, zS2_3, zS2_4, zS2_5, zS2_6, zS2_7, zS2_8⟩ := S2.out.cells
              have lS2 := blk_lt S2.out.2
              go_wp2_with fail
              refine (H3.out _ S2.out).mono ?_
              rintro e w' ⟨rfl, hB⟩
              have S3 := Lib.hid (S2.out.below hB)
              clear hB
              obtain ⟨zS3_0, zS3_1, zS3_2, zS3_3, zS3_4, zS3_5, zS3_6, zS3_7, zS3_8⟩ := S3.out.cells
              have lS3 := blk_lt S3.out.2
              go_wp2_with fail
              refine (H4.out _ S3.out).mono ?_
              rintro e w' ⟨rfl, hB⟩
              have S4 := Lib.hid (S3.out.below hB)
              clear hB
              obtain ⟨zS4_0, zS4_1, zS4_2, zS4_3, zS4_4, zS4_5, zS4_6, zS4_7, zS4_8⟩ := S4.out.cells
              have lS4 := blk_lt S4.out.2
              go_wp2_with fail
              refine (H5.out _ S4.out).mono ?_
              rintro e w' ⟨rfl, hB⟩
              have S5 := Lib.hid (S4.out.below hB)
              clear hB
              obtain ⟨zS5_0, zS5_1, zS5_2, zS5_3, zS5_4, zS5_5, zS5_6, zS5_7, zS5_8⟩ := S5.out.cells
              have lS5 := blk_lt S5.out.2
              go_wp2
              go_ret
              exact ⟨rfl, S5.out.1⟩
            · have e6 : decide ((ls.length : Int) > 16) = false := by simp; omega
              have e6' : ¬ (16 : Int) < (ls.length : Int) := by omega
              cases c7 : ls.any (bad9 hosts) with
              | true =>
                rw [if_pos (.inr rfl)]
                rw [c7] at H6
                clear c1 c2 c3 c4 c6 c7 H7 gL hr5 hr6 hr7 hds hes hls
                go_enter Try.func45, Try.ntmps45
                go_wp2_with fail
                refine (H1.out _).mono ?_
                rintro e w' ⟨rfl, hB⟩
                have S1 := Lib.hid (S0.out.below hB)
                clear hB
                obtain ⟨zS1_0, zS1_1, zS1_2, zS1_3, zS1_4, zS1_5, zS1_6, zS1_7, zS1_8⟩ := S1.out.cells
                have lS1 := blk_lt S1.out.2
                go_wp2_with fail
                refine (H2.out _).mono ?_
                rintro e w' ⟨rfl, hB⟩
                have S2 := Lib.hid (S1.out.below hB)
                clear hB
                obtain ⟨zS2_0, zS2_1, zS2_2, zS2_3, zS2_4, zS2_5, zS2_6, zS2_7, zS2_8⟩ := S2.out.cells
                have lS2 := blk_lt S2.out.2
                go_wp2_with fail
                refine (H3.out _ S2.out).mono ?_
                rintro e w' ⟨rfl, hB⟩
                have S3 := Lib.hid (S2.out.below hB)
                clear hB
                obtain ⟨zS3_0, zS3_1, zS3_2, zS3_3, zS3_4, zS3_5, zS3_6, zS3_7, zS3_8⟩ := S3.out.cells
                have lS3 := blk_lt S3.out.2
                go_wp2_with fail
                refine (H4.out _ S3.out).mono ?_
                rintro e w' ⟨rfl, hB⟩
                have S4 := Lib.hid (S3.out.below hB)
                clear hB
                obtain ⟨zS4_0, zS4_1, zS4_2, zS4_3, zS4_4, zS4_5, zS4_6, zS4_7, zS4_8⟩ := S4.out.cells
                have lS4 := blk_lt S4.out.2
                go_wp2_with fail
                refine (H5.out _ S4.out).mono ?_
                rintro e w' ⟨rfl, hB⟩
                have S5 := Lib.hid (S4.out.below hB)
                clear hB
                obtain ⟨zS5_0, zS5_1, zS5_2, zS5_3, zS5_4, zS5_5, zS5_6, zS5_7, zS5_8⟩ := S5.out.cells
                have lS5 := blk_lt S5.out.2
                go_wp2_with fail
                refine (H6.out _ S5.out).mono ?_
                rintro e w' ⟨rfl, hB⟩
                have S6 := Lib.hid (S5.out.below hB)
                clear hB
                obtain ⟨zS6_0, zS6_1, zS6_2, zS6_3, zS6_4, zS6_5, zS6_6, zS6_7, zS6_8⟩ := S6.out.cells
                have lS6 := blk_lt S6.out.2
                go_wp2
                go_ret
                exact ⟨rfl, S6.out.1⟩
              | false =>
                rw [if_neg (fun h => h.elim c6 (by simp))]
                rw [c7] at H6
                by_cases c8 : 1 ≤ q ∧ q ≤ 64
                · rw [if_neg (fun h => h c8)]
                  rw [decide_eq_true c8] at H7
                  clear c1 c2 c3 c4 c6 c7 c8 gL hr5 hr6 hr7 hds hes hls
                  go_enter Try.func45, Try.ntmps45
                  go_wp2_with fail
                  refine (H1.out _).mono ?_
                  rintro e w' ⟨rfl, hB⟩
                  have S1 := Lib.hid (S0.out.below hB)
                  clear hB
                  obtain ⟨zS1_0, zS1_1, zS1_2, zS1_3, zS1_4, zS1_5, zS1_6, zS1_7, zS1_8⟩ := S1.out.cells
                  have lS1 := blk_lt S1.out.2
                  go_wp2_with fail
                  refine (H2.out _).mono ?_
                  rintro e w' ⟨rfl, hB⟩
                  have S2 := Lib.hid (S1.out.below hB)
                  clear hB
                  obtain ⟨zS2_0, zS2_1, zS2_2, zS2_3, zS2_4, zS2_5, zS2_6, zS2_7, zS2_8⟩ := S2.out.cells
                  have lS2 := blk_lt S2.out.2
                  go_wp2_with fail
                  refine (H3.out _ S2.out).mono ?_
                  rintro e w' ⟨rfl, hB⟩
                  have S3 := Lib.hid (S2.out.below hB)
                  clear hB
                  obtain ⟨zS3_0, zS3_1, zS3_2, zS3_3, zS3_4, zS3_5, zS3_6, zS3_7, zS3_8⟩ := S3.out.cells
                  have lS3 := blk_lt S3.out.2
                  go_wp2_with fail
                  refine (H4.out _ S3.out).mono ?_
                  rintro e w' ⟨rfl, hB⟩
                  have S4 := Lib.hid (S3.out.below hB)
                  clear hB
                  obtain ⟨zS4_0, zS4_1, zS4_2, zS4_3, zS4_4, zS4_5, zS4_6, zS4_7, zS4_8⟩ := S4.out.cells
                  have lS4 := blk_lt S4.out.2
                  go_wp2_with fail
                  refine (H5.out _ S4.out).mono ?_
                  rintro e w' ⟨rfl, hB⟩
                  have S5 := Lib.hid (S4.out.below hB)
                  clear hB
                  obtain ⟨zS5_0, zS5_1, zS5_2, zS5_3, zS5_4, zS5_5, zS5_6, zS5_7, zS5_8⟩ := S5.out.cells
                  have lS5 := blk_lt S5.out.2
                  go_wp2_with fail
                  refine (H6.out _ S5.out).mono ?_
                  rintro e w' ⟨rfl, hB⟩
                  have S6 := Lib.hid (S5.out.below hB)
                  clear hB
                  obtain ⟨zS6_0, zS6_1, zS6_2, zS6_3, zS6_4, zS6_5, zS6_6, zS6_7, zS6_8⟩ := S6.out.cells
                  have lS6 := blk_lt S6.out.2
                  go_wp2_with fail
                  refine (H7.out _).mono ?_
                  rintro e w' ⟨rfl, hB⟩
                  have S7 := Lib.hid (S6.out.below hB)
                  clear hB
                  obtain ⟨zS7_0, zS7_1, zS7_2, zS7_3, zS7_4, zS7_5, zS7_6, zS7_7, zS7_8⟩ := S7.out.cells
                  have lS7 := blk_lt S7.out.2
                  go_wp2
                  go_ret
                  exact ⟨rfl, S7.out.1⟩
                · rw [if_pos c8]
                  rw [decide_eq_false c8] at H7
                  clear c1 c2 c3 c4 c6 c7 c8 gL hr5 hr6 hr7 hds hes hls
                  go_enter Try.func45, Try.ntmps45
                  go_wp2_with fail
                  refine (H1.out _).mono ?_
                  rintro e w' ⟨rfl, hB⟩
                  have S1 := Lib.hid (S0.out.below hB)
                  clear hB
                  obtain ⟨zS1_0, zS1_1, zS1_2, zS1_3, zS1_4, zS1_5, zS1_6, zS1_7, zS1_8⟩ := S1.out.cells
                  have lS1 := blk_lt S1.out.2
                  go_wp2_with fail
                  refine (H2.out _).mono ?_
                  rintro e w' ⟨rfl, hB⟩
                  have S2 := Lib.hid (S1.out.below hB)
                  clear hB
                  obtain ⟨zS2_0, zS2_1, zS2_2, zS2_3, zS2_4, zS2_5, zS2_6, zS2_7, zS2_8⟩ := S2.out.cells
                  have lS2 := blk_lt S2.out.2
                  go_wp2_with fail
                  refine (H3.out _ S2.out).mono ?_
                  rintro e w' ⟨rfl, hB⟩
                  have S3 := Lib.hid (S2.out.below hB)
                  clear hB
                  obtain ⟨zS3_0, zS3_1, zS3_2, zS3_3, zS3_4, zS3_5, zS3_6, zS3_7, zS3_8⟩ := S3.out.cells
                  have lS3 := blk_lt S3.out.2
                  go_wp2_with fail
                  refine (H4.out _ S3.out).mono ?_
                  rintro e w' ⟨rfl, hB⟩
                  have S4 := Lib.hid (S3.out.below hB)
                  clear hB
                  obtain ⟨zS4_0, zS4_1, zS4_2, zS4_3, zS4_4, zS4_5, zS4_6, zS4_7, zS4_8⟩ := S4.out.cells
                  have lS4 := blk_lt S4.out.2
                  go_wp2_with fail
                  refine (H5.out _ S4.out).mono ?_
                  rintro e w' ⟨rfl, hB⟩
                  have S5 := Lib.hid (S4.out.below hB)
                  clear hB
                  obtain ⟨zS5_0, zS5_1, zS5_2, zS5_3, zS5_4, zS5_5, zS5_6, zS5_7, zS5_8⟩ := S5.out.cells
                  have lS5 := blk_lt S5.out.2
                  go_wp2_with fail
                  refine (H6.out _ S5.out).mono ?_
                  rintro e w' ⟨rfl, hB⟩
                  have S6 := Lib.hid (S5.out.below hB)
                  clear hB
                  obtain ⟨zS6_0, zS6_1, zS6_2, zS6_3, zS6_4, zS6_5, zS6_6, zS6_7, zS6_8⟩ := S6.out.cells
                  have lS6 := blk_lt S6.out.2
                  go_wp2_with fail
                  refine (H7.out _).mono ?_
                  rintro e w' ⟨rfl, hB⟩
                  have S7 := Lib.hid (S6.out.below hB)
                  clear hB
                  obtain ⟨zS7_0, zS7_1, zS7_2, zS7_3, zS7_4, zS7_5, zS7_6, zS7_7, zS7_8⟩ := S7.out.cells
                  have lS7 := blk_lt S7.out.2
                  go_wp2
                  go_ret
                  exact ⟨rfl, S7.out.1⟩
          · rw [if_neg c5]
            have e5 : (sv != 0) = true := by simp [c5]
            have e5' : (sv == 0) = false := by simp [c5]
            clear c1 c2 c3 c4 c5 H6 H7 gL hr5 hr6 hr7 hds hes hls
            go_enter Try.func45, Try.ntmps45
            go_wp2_with fail
            refine (H1.out _).mono ?_
            rintro e w' ⟨rfl, hB⟩
            have S1 := Lib.hid (S0.out.below hB)
            clear hB
            obtain ⟨zS1_0, zS1_1, zS1_2, zS1_3, zS1_4, zS1_5, zS1_6, zS1_7, zS1_8⟩ := S1.out.cells
            have lS1 := blk_lt S1.out.2
            go_wp2_with fail
            refine (H2.out _).mono ?_
            rintro e w' ⟨rfl, hB⟩
            have S2 := Lib.hid (S1.out.below hB)
            clear hB
            obtain ⟨zS2_0, zS2_1, zS2_2, zS2_3, zS2_4, zS2_5, zS2_6, zS2_7, zS2_8⟩ := S2.out.cells
            have lS2 := blk_lt S2.out.2
            go_wp2_with fail
            refine (H3.out _ S2.out).mono ?_
            rintro e w' ⟨rfl, hB⟩
            have S3 := Lib.hid (S2.out.below hB)
            clear hB
            obtain ⟨zS3_0, zS3_1, zS3_2, zS3_3, zS3_4, zS3_5, zS3_6, zS3_7, zS3_8⟩ := S3.out.cells
            have lS3 := blk_lt S3.out.2
            go_wp2_with fail
            refine (H4.out _ S3.out).mono ?_
            rintro e w' ⟨rfl, hB⟩
            have S4 := Lib.hid (S3.out.below hB)
            clear hB
            obtain ⟨zS4_0, zS4_1, zS4_2, zS4_3, zS4_4, zS4_5, zS4_6, zS4_7, zS4_8⟩ := S4.out.cells
            have lS4 := blk_lt S4.out.2
            go_wp2_with fail
            refine (H5.out _ S4.out).mono ?_
            rintro e w' ⟨rfl, hB⟩
            have S5 := Lib.hid (S4.out.below hB)
            clear hB
            obtain ⟨zS5_0, zS5_1, zS5_2, zS5_3, zS5_4, zS5_5, zS5_6, zS5_7, zS5_8⟩ := S5.out.cells
            have lS5 := blk_lt S5.out.2
            go_wp2
            go_ret
            exact ⟨rfl, S5.out.1⟩
        · have e4 : (decide ((ds.length : Int) = hosts) && ds.all (rowV dly)) = false := by
            rw [Bool.eq_false_iff]
            intro h
            simp only [Bool.and_eq_true, decide_eq_true_eq] at h
            exact c4 h
          rw [e4] at H4
          have ev : checkV hosts cyc dly win prec ds es ls q = 4 := by
            unfold checkV
            rw [if_neg (fun h => h c1), if_neg (fun h => h c2), if_neg (by rw [c3]; decide), if_pos c4]
          rw [ev]
          clear c1 c2 c3 c4 e4 ev H7 gL hr5 hr6 hr7 hds hes hls
          go_enter Try.func45, Try.ntmps45
          go_wp2_with fail
          refine (H1.out _).mono ?_
          rintro e w' ⟨rfl, hB⟩
          have S1 := Lib.hid (S0.out.below hB)
          clear hB
          obtain ⟨zS1_0, zS1_1, zS1_2, zS1_3, zS1_4, zS1_5, zS1_6, zS1_7, zS1_8⟩ := S1.out.cells
          have lS1 := blk_lt S1.out.2
          go_wp2_with fail
          refine (H2.out _).mono ?_
          rintro e w' ⟨rfl, hB⟩
          have S2 := Lib.hid (S1.out.below hB)
          clear hB
          obtain ⟨zS2_0, zS2_1, zS2_2, zS2_3, zS2_4, zS2_5, zS2_6, zS2_7, zS2_8⟩ := S2.out.cells
          have lS2 := blk_lt S2.out.2
          go_wp2_with fail
          refine (H3.out _ S2.out).mono ?_
          rintro e w' ⟨rfl, hB⟩
          have S3 := Lib.hid (S2.out.below hB)
          clear hB
          obtain ⟨zS3_0, zS3_1, zS3_2, zS3_3, zS3_4, zS3_5, zS3_6, zS3_7, zS3_8⟩ := S3.out.cells
          have lS3 := blk_lt S3.out.2
          go_wp2_with fail
          refine (H4.out _ S3.out).mono ?_
          rintro e w' ⟨rfl, hB⟩
          have S4 := Lib.hid (S3.out.below hB)
          clear hB
          obtain ⟨zS4_0, zS4_1, zS4_2, zS4_3, zS4_4, zS4_5, zS4_6, zS4_7, zS4_8⟩ := S4.out.cells
          have lS4 := blk_lt S4.out.2
          go_wp2
          go_ret
          exact ⟨rfl, S4.out.1⟩
      | false =>
        rw [c3] at H3
        have ev : checkV hosts cyc dly win prec ds es ls q = 3 := by
          unfold checkV
          rw [if_neg (fun h => h c1), if_neg (fun h => h c2), if_pos c3]
        rw [ev]
        clear c1 c2 c3 ev H4 H7 gL hr5 hr6 hr7 hds hes hls
        go_enter Try.func45, Try.ntmps45
        go_wp2_with fail
        refine (H1.out _).mono ?_
        rintro e w' ⟨rfl, hB⟩
        have S1 := Lib.hid (S0.out.below hB)
        clear hB
        obtain ⟨zS1_0, zS1_1, zS1_2, zS1_3, zS1_4, zS1_5, zS1_6, zS1_7, zS1_8⟩ := S1.out.cells
        have lS1 := blk_lt S1.out.2
        go_wp2_with fail
        refine (H2.out _).mono ?_
        rintro e w' ⟨rfl, hB⟩
        have S2 := Lib.hid (S1.out.below hB)
        clear hB
        obtain ⟨zS2_0, zS2_1, zS2_2, zS2_3, zS2_4, zS2_5, zS2_6, zS2_7, zS2_8⟩ := S2.out.cells
        have lS2 := blk_lt S2.out.2
        go_wp2_with fail
        refine (H3.out _ S2.out).mono ?_
        rintro e w' ⟨rfl, hB⟩
        have S3 := Lib.hid (S2.out.below hB)
        clear hB
        obtain ⟨zS3_0, zS3_1, zS3_2, zS3_3, zS3_4, zS3_5, zS3_6, zS3_7, zS3_8⟩ := S3.out.cells
        have lS3 := blk_lt S3.out.2
        go_wp2
        go_ret
        exact ⟨rfl, S3.out.1⟩
    · rw [decide_eq_false c2] at H2
      have ev : checkV hosts cyc dly win prec ds es ls q = 2 := by
        unfold checkV
        rw [if_neg (fun h => h c1), if_pos c2]
      rw [ev]
      clear c1 c2 ev H3 H4 H7 gL hr5 hr6 hr7 hds hes hls
      go_enter Try.func45, Try.ntmps45
      go_wp2_with fail
      refine (H1.out _).mono ?_
      rintro e w' ⟨rfl, hB⟩
      have S1 := Lib.hid (S0.out.below hB)
      clear hB
      obtain ⟨zS1_0, zS1_1, zS1_2, zS1_3, zS1_4, zS1_5, zS1_6, zS1_7, zS1_8⟩ := S1.out.cells
      have lS1 := blk_lt S1.out.2
      go_wp2_with fail
      refine (H2.out _).mono ?_
      rintro e w' ⟨rfl, hB⟩
      have S2 := Lib.hid (S1.out.below hB)
      clear hB
      obtain ⟨zS2_0, zS2_1, zS2_2, zS2_3, zS2_4, zS2_5, zS2_6, zS2_7, zS2_8⟩ := S2.out.cells
      have lS2 := blk_lt S2.out.2
      go_wp2
      go_ret
      exact ⟨rfl, S2.out.1⟩
  · rw [decide_eq_false c1] at H1
    have ev : checkV hosts cyc dly win prec ds es ls q = 1 := by
      unfold checkV
      rw [if_pos c1]
    rw [ev]
    clear c1 ev H2 H3 H4 H7 gL hr5 hr6 hr7 hds hes hls
    go_enter Try.func45, Try.ntmps45
    go_wp2_with fail
    refine (H1.out _).mono ?_
    rintro e w' ⟨rfl, hB⟩
    have S1 := Lib.hid (S0.out.below hB)
    clear hB
    obtain ⟨zS1_0, zS1_1, zS1_2, zS1_3, zS1_4, zS1_5, zS1_6, zS1_7, zS1_8⟩ := S1.out.cells
    have lS1 := blk_lt S1.out.2
    go_wp2
    go_ret
    exact ⟨rfl, S1.out.1⟩
end
end Go.Proofs.Ytbmldeikjfecfaa.Hd
