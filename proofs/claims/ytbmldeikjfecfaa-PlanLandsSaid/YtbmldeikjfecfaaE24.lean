/- A part of the proof of the statement PlanLands: words, contracts of functions that it reaches, and what they compute. No condition. -/
import Derived.Test.YtbmldeikjfecfaaE23
import Derived.Laws.EntriesVeiled
set_option linter.unusedVariables false
set_option linter.unusedSimpArgs false
namespace Go.Proofs.Ytbmldeikjfecfaa.Hd
open Go.RowKit Go.Proofs.Ytbmldeikjfecfaa.T Go.Proofs.YtbmldeikjfecfaaW.PrintWords Go.Proofs.YtbmldeikjfecfaaW.PrintLast Go.Proofs.YtbmldeikjfecfaaW.PrintMore
section
variable {hosts cyc dly win prec : Int} {A5 : Option Addr} {c5 : Nat} {ds : List (List Int)} {A6 : Option Addr} {c6 : Nat} {es : List S40} {A7 : Option Addr} {c7 : Nat} {ls : List S63} {q : Int}
def schedV (hosts cyc dly win prec : Int) (es : List S40) : Int :=
  if 16 < es.length ∨ es.any (bad5 hosts) = true then 5 else if es.any (bad6 cyc dly win prec) = true then 6 else if pairsV es bad7 = true then 7 else if pairsV es (bad8 dly prec) = true then 8 else 0
def Sch (w : World) (C : Nat) (cv : Array Value) (W : World) : Prop := Below w.heap.size w W ∧ W.heap[C]? = some (.cells cv 26 (0, 0)) ∧ W.heap[C + 1]? = some (boxF 67 #[] 86) ∧ W.heap[C + 2]? = some (boxF 68 #[.pointer (some ⟨C, 0, none⟩)] 86)
theorem Sch.below {w : World} {C : Nat} {cv : Array Value} {W W' : World} (h : Sch w C cv W) (hb : Below W.heap.size W W') : Sch w C cv W' := ⟨below_step h.1 hb, blk_below h.2.1 hb, blk_below h.2.2.1 hb, blk_below h.2.2.2 hb⟩
theorem Sch.entries {w : World} {C : Nat} {W : World} (h : Sch w C #[.int .i64 hosts, .int .i64 cyc, .int .i64 dly, .int .i64 win, .int .i64 prec, .slice A5 ds.length c5, .slice A6 es.length c6, .slice A7 ls.length c7, .int .i64 q] W) : W.cell? ⟨C, 6, none⟩ = some (.slice A6 es.length c6) := (blk_cell h.2.1 6).trans rfl
theorem Sch.start (w : World) (cv : Array Value) : Sch w w.heap.size cv (((w.alloc (.cells cv 26)).alloc (boxF 67 #[] 86)).alloc (boxF 68 #[.pointer (some ⟨w.heap.size, 0, none⟩)] 86)) := by
  refine ⟨below_alloc (below_alloc (below_alloc (Below.refl _ _) _) _) _, blk_alloc (blk_alloc (blk_new w _) _) _, blk_alloc ?_ _, ?_⟩
  · have := blk_new (w.alloc (.cells cv 26)) (boxF 67 #[] 86)
    simpa using this
  · have := blk_new ((w.alloc (.cells cv 26)).alloc (boxF 67 #[] 86)) (boxF 68 #[.pointer (some ⟨w.heap.size, 0, none⟩)] 86)
    simpa using this
set_option maxHeartbeats 3200000 in
theorem schedule_calls (w : World) (hr5 : Kd.C (Kd.slice 2 (Kd.int .i64)) w A5 ds.length ds) (hc5 : ds.length ≤ c5) (hr6 : Kd.C k40 w A6 es.length es) (hc6 : es.length ≤ c6) (hr7 : Kd.C k63 w A7 ls.length ls) (hc7 : ls.length ≤ c7) (hl : es.length ≤ 9223372036854775807) (ho : ∀ e ∈ es, okE e) (h1 : 1 ≤ hosts) (h6 : hosts ≤ 6) (hs : spansV cyc dly win prec = true) :
    Calls Try.prog 57 #[.agg #[.int .i64 hosts, .int .i64 cyc, .int .i64 dly, .int .i64 win, .int .i64 prec, .slice A5 ds.length c5, .slice A6 es.length c6, .slice A7 ls.length c7, .int .i64 q]] w fun e w' => e = .returned (.int .i64 (schedV hosts cyc dly win prec es)) ∧ Below w.heap.size w w' := by
  have hsp := of_decide_eq_true hs
  obtain ⟨C, hC⟩ : ∃ C, C = w.heap.size := ⟨_, rfl⟩
  have HS := Lib.hid (Sch.start w #[.int .i64 hosts, .int .i64 cyc, .int .i64 dly, .int .i64 win, .int .i64 prec, .slice A5 ds.length c5, .slice A6 es.length c6, .slice A7 ls.length c7, .int .i64 q])
  have g3 : ∀ args w, (callFunc 70 args).run Try.prog w = .ok (.enter 70 args) w := ent Try.func70 (by kernel_rfl) rfl
  have g4 : ∀ args w, (callFunc 71 args).run Try.prog w = .ok (.enter 71 args) w := ent Try.func71 (by kernel_rfl) rfl
  have g5 : ∀ args w, (callFunc 74 args).run Try.prog w = .ok (.enter 74 args) w := ent Try.func74 (by kernel_rfl) rfl
  have g6 : ∀ args w, (callFunc 76 args).run Try.prog w = .ok (.enter 76 args) w := ent Try.func76 (by kernel_rfl) rfl
  have g1 : ∀ args w, (callFunc 67 args).run Try.prog w = .ok (.enter 67 args) w := ent Try.func67 (by kernel_rfl) rfl
  have g2 : ∀ args w, (callFunc 68 args).run Try.prog w = .ok (.enter 68 args) w := ent Try.func68 (by kernel_rfl) rfl
  have HC5 := Lib.hid (fun W (h : Sch w w.heap.size #[.int .i64 hosts, .int .i64 cyc, .int .i64 dly, .int .i64 win, .int .i64 prec, .slice A5 ds.length c5, .slice A6 es.length c6, .slice A7 ls.length c7, .int .i64 q] W) => containsE 70 #[.pointer (some ⟨w.heap.size, 0, none⟩)] g3 A6 c6 es (bad5 hosts) W (Kd.C_below hr6 h.1) hl (fun e he W' hW' => e3_calls e w.heap.size W' (blk_below h.2.1 hW') (ho e he) h1 h6))
  unfold schedV
  by_cases c16 : 16 < es.length
  · rw [if_pos (.inl c16)]
    have e16 : decide ((es.length : Int) > 16) = true := by simp; omega
    have e16' : (16 : Int) < (es.length : Int) := by omega
    clear HC5 g1 g2 g3 g4 g5 g6 hr5 hr6 hr7 ho
    go_enter Try.func57, Try.ntmps57
    go_wp2
    go_ret
    exact ⟨rfl, HS.out.1⟩
  · have e16 : decide ((es.length : Int) > 16) = false := by simp; omega
    have e16' : ¬ (16 : Int) < (es.length : Int) := by omega
    by_cases c5' : es.any (bad5 hosts) = true
    · rw [if_pos (.inr c5')]
      rw [c5'] at HC5
      clear g1 g2 g3 g4 g5 g6 hr5 hr6 hr7 ho c16 c5'
      go_enter Try.func57, Try.ntmps57
      go_wp2_with fail
      refine (HC5.out _ HS.out).mono ?_
      rintro e w' ⟨rfl, hB⟩
      have S1 := Lib.hid (HS.out.below hB)
      clear hB
      have z1 := S1.out.entries
      have l1 := blk_lt S1.out.2.1
      go_wp2
      go_ret
      exact ⟨rfl, S1.out.1⟩
    · rw [if_neg (fun h => h.elim c16 c5')]
      have c5f : es.any (bad5 hosts) = false := by simpa using c5'
      rw [c5f] at HC5
      have hro : ∀ e ∈ es, routeV 6 e.f0 e.f1 e.f3 = true := fun e he => route_more h6 (by have := List.any_eq_false.1 c5f e he; unfold bad5 at this; simpa using this)
      have HC6 := Lib.hid (fun W (h : Sch w w.heap.size #[.int .i64 hosts, .int .i64 cyc, .int .i64 dly, .int .i64 win, .int .i64 prec, .slice A5 ds.length c5, .slice A6 es.length c6, .slice A7 ls.length c7, .int .i64 q] W) => containsE 71 #[.pointer (some ⟨w.heap.size, 0, none⟩)] g4 A6 c6 es (bad6 cyc dly win prec) W (Kd.C_below hr6 h.1) hl
        (fun e he W' hW' => e4_calls e w.heap.size W' (blk_below h.2.1 hW') (Kd.C_below (Kd.C_below hr5 h.1) hW') hc5 (Kd.C_below (Kd.C_below hr6 h.1) hW') hc6 (Kd.C_below (Kd.C_below hr7 h.1) hW') hc7 (ho e he) hs (hro e he)))
      clear c16 c5' c5f
      by_cases c6' : es.any (bad6 cyc dly win prec) = true
      · rw [if_pos c6']
        rw [c6'] at HC6
        clear g1 g2 g3 g4 g5 g6 hr5 hr6 hr7 ho c6' hro
        go_enter Try.func57, Try.ntmps57
        go_wp2_with fail
        refine (HC5.out _ HS.out).mono ?_
        rintro e w' ⟨rfl, hB⟩
        have S1 := Lib.hid (HS.out.below hB)
        clear hB
        have z1 := S1.out.entries
        have l1 := blk_lt S1.out.2.1
        go_wp2_with fail
        refine (HC6.out _ S1.out).mono ?_
        rintro e w' ⟨rfl, hB⟩
        have S2 := Lib.hid (S1.out.below hB)
        clear hB
        have z2 := S2.out.entries
        have l2 := blk_lt S2.out.2.1
        go_wp2
        go_ret
        exact ⟨rfl, S2.out.1⟩
      · rw [if_neg c6']
        have c6f : es.any (bad6 cyc dly win prec) = false := by simpa using c6'
        rw [c6f] at HC6
        have hph : ∀ e ∈ es, -1125899906842624 ≤ e.f2 ∧ e.f2 ≤ 1073741824 := fun e he => by
          have := List.any_eq_false.1 c6f e he
          unfold bad6 quietV at this
          simp only [Bool.or_eq_true, decide_eq_true_eq, not_or] at this
          omega
        have hfw : ∀ e ∈ es, -1125899906842624 ≤ fwdV dly prec e ∧ fwdV dly prec e ≤ 1125899906842624 := fun e he => by
          have h1 := List.any_eq_false.1 c6f e he
          unfold bad6 quietV at h1
          simp only [Bool.or_eq_true, decide_eq_true_eq, not_or] at h1
          have h2 := time_in e.f3
          unfold fwdV
          omega
        have HC7 := Lib.hid (fun W (h : Sch w w.heap.size #[.int .i64 hosts, .int .i64 cyc, .int .i64 dly, .int .i64 win, .int .i64 prec, .slice A5 ds.length c5, .slice A6 es.length c6, .slice A7 ls.length c7, .int .i64 q] W) => pairs_calls es A6 c6 74 #[.pointer (some ⟨w.heap.size + 1, 0, none⟩)] g5 W (Kd.C_below hr6 h.1) hc6 hl bad7
          (fun a ha y hy W' hW' => e5_calls a y (w.heap.size + 1) 67 #[] g1 W' (blk_below h.2.2.1 hW') a.f2 y.f2 (by have := hph a ha; omega) (by have := hph y hy; omega) (fun W'' _ => phase_calls a W'') (fun W'' _ => phase_calls y W'')))
        have HC8 := Lib.hid (fun W (h : Sch w w.heap.size #[.int .i64 hosts, .int .i64 cyc, .int .i64 dly, .int .i64 win, .int .i64 prec, .slice A5 ds.length c5, .slice A6 es.length c6, .slice A7 ls.length c7, .int .i64 q] W) => pairs_calls es A6 c6 76 #[.pointer (some ⟨w.heap.size + 2, 0, none⟩)] g6 W (Kd.C_below hr6 h.1) hc6 hl (bad8 dly prec)
          (fun a ha y hy W' hW' => e6_calls a y (w.heap.size + 2) 68 #[.pointer (some ⟨w.heap.size, 0, none⟩)] g2 W' (blk_below h.2.2.2 hW') (fwdV dly prec a) (fwdV dly prec y) (hfw a ha) (hfw y hy)
            (fun W'' h'' => fwd_calls a w.heap.size W'' (blk_below (blk_below h.2.1 hW') h'') (Kd.C_below (Kd.C_below (Kd.C_below hr5 h.1) hW') h'') hc5 (Kd.C_below (Kd.C_below (Kd.C_below hr6 h.1) hW') h'') hc6 (Kd.C_below (Kd.C_below (Kd.C_below hr7 h.1) hW') h'') hc7 (ho a ha) hs (hro a ha) (by have := hph a ha; omega))
            (fun W'' h'' => fwd_calls y w.heap.size W'' (blk_below (blk_below h.2.1 hW') h'') (Kd.C_below (Kd.C_below (Kd.C_below hr5 h.1) hW') h'') hc5 (Kd.C_below (Kd.C_below (Kd.C_below hr6 h.1) hW') h'') hc6 (Kd.C_below (Kd.C_below (Kd.C_below hr7 h.1) hW') h'') hc7 (ho y hy) hs (hro y hy) (by have := hph y hy; omega))))
        clear c6' c6f
        by_cases c7' : pairsV es bad7 = true
        · rw [if_pos c7']
          rw [c7'] at HC7
          clear g1 g2 g3 g4 g5 g6 hr5 hr6 hr7 ho hro hph hfw c7' HC8
          go_enter Try.func57, Try.ntmps57
          go_wp2_with fail
          refine (HC5.out _ HS.out).mono ?_
          rintro e w' ⟨rfl, hB⟩
          have S1 := Lib.hid (HS.out.below hB)
          clear hB
          have z1 := S1.out.entries
          have l1 := blk_lt S1.out.2.1
          go_wp2_with fail
          refine (HC6.out _ S1.out).mono ?_
          rintro e w' ⟨rfl, hB⟩
          have S2 := Lib.hid (S1.out.below hB)
          clear hB
          have z2 := S2.out.entries
          have l2 := blk_lt S2.out.2.1
          go_wp2_with fail
          refine (HC7.out _ S2.out).mono ?_
          rintro e w' ⟨rfl, hB⟩
          have S3 := Lib.hid (S2.out.below hB)
          clear hB
          have z3 := S3.out.entries
          have l3 := blk_lt S3.out.2.1
          go_wp2
          go_ret
          exact ⟨rfl, S3.out.1⟩
        · rw [if_neg c7']
          have c7f : pairsV es bad7 = false := by simpa using c7'
          rw [c7f] at HC7
          by_cases c8' : pairsV es (bad8 dly prec) = true
          · rw [if_pos c8']
            rw [c8'] at HC8
            clear g1 g2 g3 g4 g5 g6 hr5 hr6 hr7 ho hro hph hfw c7' c8' c7f
            go_enter Try.func57, Try.ntmps57
            go_wp2_with fail
            refine (HC5.out _ HS.out).mono ?_
            rintro e w' ⟨rfl, hB⟩
            have S1 := Lib.hid (HS.out.below hB)
            clear hB
            have z1 := S1.out.entries
            have l1 := blk_lt S1.out.2.1
            go_wp2_with fail
            refine (HC6.out _ S1.out).mono ?_
            rintro e w' ⟨rfl, hB⟩
            have S2 := Lib.hid (S1.out.below hB)
            clear hB
            have z2 := S2.out.entries
            have l2 := blk_lt S2.out.2.1
            go_wp2_with fail
            refine (HC7.out _ S2.out).mono ?_
            rintro e w' ⟨rfl, hB⟩
            have S3 := Lib.hid (S2.out.below hB)
            clear hB
            have z3 := S3.out.entries
            have l3 := blk_lt S3.out.2.1
            go_wp2_with fail
            refine (HC8.out _ S3.out).mono ?_
            rintro e w' ⟨rfl, hB⟩
            have S4 := Lib.hid (S3.out.below hB)
            clear hB
            have z4 := S4.out.entries
            have l4 := blk_lt S4.out.2.1
            go_wp2
            go_ret
            exact ⟨rfl, S4.out.1⟩
          · rw [if_neg c8']
            have c8f : pairsV es (bad8 dly prec) = false := by simpa using c8'
            rw [c8f] at HC8
            clear g1 g2 g3 g4 g5 g6 hr5 hr6 hr7 ho hro hph hfw c7' c8' c7f c8f
            go_enter Try.func57, Try.ntmps57
            go_wp2_with fail
            refine (HC5.out _ HS.out).mono ?_
            rintro e w' ⟨rfl, hB⟩
            have S1 := Lib.hid (HS.out.below hB)
            clear hB
            have z1 := S1.out.entries
            have l1 := blk_lt S1.out.2.1
            go_wp2_with fail
            refine (HC6.out _ S1.out).mono ?_
            rintro e w' ⟨rfl, hB⟩
            have S2 := Lib.hid (S1.out.below hB)
            clear hB
            have z2 := S2.out.entries
            have l2 := blk_lt S2.out.2.1
            go_wp2_with fail
            refine (HC7.out _ S2.out).mono ?_
            rintro e w' ⟨rfl, hB⟩
            have S3 := Lib.hid (S2.out.below hB)
            clear hB
            have z3 := S3.out.entries
            have l3 := blk_lt S3.out.2.1
            go_wp2_with fail
            refine (HC8.out _ S3.out).mono ?_
            rintro e w' ⟨rfl, hB⟩
            have S4 := Lib.hid (S3.out.below hB)
            clear hB
            have z4 := S4.out.entries
            have l4 := blk_lt S4.out.2.1
            go_wp2
            go_ret
            exact ⟨rfl, S4.out.1⟩
end
end Go.Proofs.Ytbmldeikjfecfaa.Hd
