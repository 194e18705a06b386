/- A part of the proof of the statement PlanLands: words, contracts of functions that it reaches, and what they compute. No condition. -/
import Derived.Test.YtbmldeikjfecfaaE48
set_option linter.unusedVariables false
set_option linter.unusedSimpArgs false
namespace Go.Proofs.Ytbmldeikjfecfaa.Hd
open Go.RowKit Go.Proofs.Ytbmldeikjfecfaa.T Go.Proofs.YtbmldeikjfecfaaW.PrintWords Go.Proofs.YtbmldeikjfecfaaW.PrintLast Go.Proofs.YtbmldeikjfecfaaW.PrintMore
section
variable {hosts cyc dly win prec : Int} {A5 : Option Addr} {c5 : Nat} {ds : List (List Int)} {A6 : Option Addr} {c6 : Nat} {es : List S40} {A7 : Option Addr} {c7 : Nat} {ls : List S63} {q : Int}
def LnB (w : World) (C : Nat) (cv ov : Array Value) (W : World) : Prop := Below w.heap.size w W ∧ W.heap[C]? = some (.cells cv 26 (0, 0)) ∧ W.heap[C + 1]? = some (.cells ov 42 (0, 0))
theorem LnB.below {w : World} {C : Nat} {cv ov : Array Value} {W W' : World} (h : LnB w C cv ov W) (hb : Below W.heap.size W W') : LnB w C cv ov W' := ⟨below_step h.1 hb, blk_below h.2.1 hb, blk_below h.2.2 hb⟩
theorem LnB.cells {w : World} {C : Nat} {o0 o1 o2 o3 : Int} {W : World} (h : LnB w C #[.int .i64 hosts, .int .i64 cyc, .int .i64 dly, .int .i64 win, .int .i64 prec, .slice A5 ds.length c5, .slice A6 es.length c6, .slice A7 ls.length c7, .int .i64 q] #[.int .i32 o0, .int .i32 o1, .int .i32 o2, .int .i32 o3] W) : W.cell? ⟨C, 0, none⟩ = some (.int .i64 hosts) ∧ W.cell? ⟨C, 1, none⟩ = some (.int .i64 cyc) ∧ W.cell? ⟨C, 2, none⟩ = some (.int .i64 dly) ∧ W.cell? ⟨C, 3, none⟩ = some (.int .i64 win) ∧ W.cell? ⟨C, 4, none⟩ = some (.int .i64 prec) ∧
    W.cell? ⟨C, 5, none⟩ = some (.slice A5 ds.length c5) ∧ W.cell? ⟨C, 6, none⟩ = some (.slice A6 es.length c6) ∧ W.cell? ⟨C, 7, none⟩ = some (.slice A7 ls.length c7) ∧ W.cell? ⟨C, 8, none⟩ = some (.int .i64 q) ∧
    W.cell? ⟨C + 1, 0, none⟩ = some (.int .i32 o0) ∧ W.cell? ⟨C + 1, 1, none⟩ = some (.int .i32 o1) ∧ W.cell? ⟨C + 1, 2, none⟩ = some (.int .i32 o2) ∧ W.cell? ⟨C + 1, 3, none⟩ = some (.int .i32 o3) :=
  ⟨(blk_cell h.2.1 0).trans rfl, (blk_cell h.2.1 1).trans rfl, (blk_cell h.2.1 2).trans rfl, (blk_cell h.2.1 3).trans rfl, (blk_cell h.2.1 4).trans rfl, (blk_cell h.2.1 5).trans rfl, (blk_cell h.2.1 6).trans rfl, (blk_cell h.2.1 7).trans rfl, (blk_cell h.2.1 8).trans rfl,
    (blk_cell h.2.2 0).trans rfl, (blk_cell h.2.2 1).trans rfl, (blk_cell h.2.2 2).trans rfl, (blk_cell h.2.2 3).trans rfl⟩
theorem LnB.start (w : World) (cv ov : Array Value) : LnB w w.heap.size cv ov ((w.alloc (.cells cv 26)).alloc (.cells ov 42)) := by
  refine ⟨below_alloc (below_alloc (Below.refl _ _) _) _, blk_alloc (blk_new w _) _, ?_⟩
  have := blk_new (w.alloc (.cells cv 26)) (.cells ov 42)
  simpa using this
def LnE (w : World) (C : Nat) (cv ov : Array Value) (E : Nat) (ev : Array Value) (fv : Value) (W : World) : Prop := LnB w C cv ov W ∧ W.heap[E]? = some (.cells ev 40 (0, 0)) ∧ W.heap[E + 1]? = some (.cells #[fv] 45 (0, 0))
theorem LnE.below {w : World} {C : Nat} {cv ov : Array Value} {E : Nat} {ev : Array Value} {fv : Value} {W W' : World} (h : LnE w C cv ov E ev fv W) (hb : Below W.heap.size W W') : LnE w C cv ov E ev fv W' := ⟨h.1.below hb, blk_below h.2.1 hb, blk_below h.2.2 hb⟩
theorem LnE.bel {w : World} {C : Nat} {cv ov : Array Value} {E : Nat} {ev : Array Value} {fv : Value} {W : World} (h : LnE w C cv ov E ev fv W) : Below w.heap.size w W := h.1.1
theorem LnE.cells {w : World} {C : Nat} {o0 o1 o2 o3 : Int} {E : Nat} {e : S40} {fv : Value} {W : World} (h : LnE w C #[.int .i64 hosts, .int .i64 cyc, .int .i64 dly, .int .i64 win, .int .i64 prec, .slice A5 ds.length c5, .slice A6 es.length c6, .slice A7 ls.length c7, .int .i64 q] #[.int .i32 o0, .int .i32 o1, .int .i32 o2, .int .i32 o3] E #[.int .i64 e.f0, .int .u32 e.f1, .int .i64 e.f2, .int .i64 e.f3] fv W) : W.cell? ⟨C, 0, none⟩ = some (.int .i64 hosts) ∧ W.cell? ⟨C, 1, none⟩ = some (.int .i64 cyc) ∧ W.cell? ⟨C, 2, none⟩ = some (.int .i64 dly) ∧ W.cell? ⟨C, 3, none⟩ = some (.int .i64 win) ∧ W.cell? ⟨C, 4, none⟩ = some (.int .i64 prec) ∧
    W.cell? ⟨C, 5, none⟩ = some (.slice A5 ds.length c5) ∧ W.cell? ⟨C, 6, none⟩ = some (.slice A6 es.length c6) ∧ W.cell? ⟨C, 7, none⟩ = some (.slice A7 ls.length c7) ∧ W.cell? ⟨C, 8, none⟩ = some (.int .i64 q) ∧
    W.cell? ⟨C + 1, 0, none⟩ = some (.int .i32 o0) ∧ W.cell? ⟨C + 1, 1, none⟩ = some (.int .i32 o1) ∧ W.cell? ⟨C + 1, 2, none⟩ = some (.int .i32 o2) ∧ W.cell? ⟨C + 1, 3, none⟩ = some (.int .i32 o3) ∧
    W.cell? ⟨E, 0, none⟩ = some (.int .i64 e.f0) ∧ W.cell? ⟨E, 1, none⟩ = some (.int .u32 e.f1) ∧ W.cell? ⟨E, 2, none⟩ = some (.int .i64 e.f2) ∧ W.cell? ⟨E, 3, none⟩ = some (.int .i64 e.f3) ∧ W.cell? ⟨E + 1, 0, none⟩ = some fv := by
  obtain ⟨a0, a1, a2, a3, a4, a5, a6, a7, a8, b0, b1, b2, b3⟩ := h.1.cells
  exact ⟨a0, a1, a2, a3, a4, a5, a6, a7, a8, b0, b1, b2, b3, (blk_cell h.2.1 0).trans rfl, (blk_cell h.2.1 1).trans rfl, (blk_cell h.2.1 2).trans rfl, (blk_cell h.2.1 3).trans rfl, (blk_cell h.2.2 0).trans rfl⟩
theorem LnE.start {w : World} {C : Nat} {cv ov : Array Value} {W : World} (h : LnB w C cv ov W) (ev : Array Value) (fv : Value) : LnE w C cv ov W.heap.size ev fv ((W.alloc (.cells ev 40)).alloc (.cells #[fv] 45)) := by
  refine ⟨h.below (below_alloc (below_alloc (Below.refl _ _) _) _), blk_alloc (blk_new W _) _, ?_⟩
  have := blk_new (W.alloc (.cells ev 40)) (.cells #[fv] 45)
  simpa using this
attribute [local go_sem] at47_0 at47_1 at47_2 at47_3 at47_4
set_option maxHeartbeats 16000000 in
set_option maxRecDepth 100000 in
theorem lands_calls (w : World) (hr5 : Kd.C (Kd.slice 2 (Kd.int .i64)) w A5 ds.length ds) (hc5 : ds.length ≤ c5) (hr6 : Kd.C k40 w A6 es.length es) (hc6 : es.length ≤ c6) (hr7 : Kd.C k63 w A7 ls.length ls) (hc7 : ls.length ≤ c7) (hs : sane hosts cyc dly win prec ds es ls q) (i o0 o1 o2 o3 : Int) :
    Calls Try.prog 6 #[.agg #[.int .i64 hosts, .int .i64 cyc, .int .i64 dly, .int .i64 win, .int .i64 prec, .slice A5 ds.length c5, .slice A6 es.length c6, .slice A7 ls.length c7, .int .i64 q], .int .i64 i, .agg #[.int .i32 o0, .int .i32 o1, .int .i32 o2, .int .i32 o3]] w fun e w' => e = .returned (.bool true) ∧ Below w.heap.size w w' := by
  have S0 := Lib.hid (LnB.start w #[.int .i64 hosts, .int .i64 cyc, .int .i64 dly, .int .i64 win, .int .i64 prec, .slice A5 ds.length c5, .slice A6 es.length c6, .slice A7 ls.length c7, .int .i64 q] #[.int .i32 o0, .int .i32 o1, .int .i32 o2, .int .i32 o3])
  obtain ⟨kc, hkc⟩ := (refCheck_ev hs).rounds
  have H1 := Lib.hid (fun W => tocsinlaw15_fixed.calls 60 true W fixed_sixty)
  by_cases c0 : checkV hosts cyc dly win prec ds es ls q = 0
  · rw [c0] at hkc
    by_cases c1 : i < 0
    · have e1 : decide (i < 0) = true := decide_eq_true c1
      have H2 := Lib.hid (fun W (h : LnB w w.heap.size #[.int .i64 hosts, .int .i64 cyc, .int .i64 dly, .int .i64 win, .int .i64 prec, .slice A5 ds.length c5, .slice A6 es.length c6, .slice A7 ls.length c7, .int .i64 q] #[.int .i32 o0, .int .i32 o1, .int .i32 o2, .int .i32 o3] W) => tocsinref08_Check.calls kc hosts cyc dly win prec A5 c5 ds A6 c6 es A7 c7 ls q _ W (Kd.C_below hr5 h.1) hc5 (Kd.C_below hr6 h.1) hc6 (Kd.C_below hr7 h.1) hc7 hkc)
      clear hkc hr5 hr6 hr7
      go_enter Try.func6, Try.ntmps6
      go_wp2_with fail
      refine (H1.out _).mono ?_
      rintro e w' ⟨rfl, hB⟩
      have S1 := Lib.hid (S0.out.below hB)
      clear hB S0
      obtain ⟨zS1_0, zS1_1, zS1_2, zS1_3, zS1_4, zS1_5, zS1_6, zS1_7, zS1_8, yS1_0, yS1_1, yS1_2, yS1_3⟩ := S1.out.cells
      go_wp2_with fail
      refine (H2.out _ S1.out).mono ?_
      rintro e w' ⟨rfl, hB⟩
      have S2 := Lib.hid (S1.out.below hB)
      clear hB S1 zS1_0 zS1_1 zS1_2 zS1_3 zS1_4 zS1_5 zS1_6 zS1_7 zS1_8 yS1_0 yS1_1 yS1_2 yS1_3
      obtain ⟨zS2_0, zS2_1, zS2_2, zS2_3, zS2_4, zS2_5, zS2_6, zS2_7, zS2_8, yS2_0, yS2_1, yS2_2, yS2_3⟩ := S2.out.cells
      go_wp2
      go_ret
      exact ⟨by first | rfl | simp, S2.out.1⟩
    have e1 : decide (i < 0) = false := decide_eq_false c1
    by_cases c2 : (es.length : Int) ≤ i
    · have e2 : decide ((es.length : Int) ≤ i) = true := decide_eq_true c2
      have H2 := Lib.hid (fun W (h : LnB w w.heap.size #[.int .i64 hosts, .int .i64 cyc, .int .i64 dly, .int .i64 win, .int .i64 prec, .slice A5 ds.length c5, .slice A6 es.length c6, .slice A7 ls.length c7, .int .i64 q] #[.int .i32 o0, .int .i32 o1, .int .i32 o2, .int .i32 o3] W) => tocsinref08_Check.calls kc hosts cyc dly win prec A5 c5 ds A6 c6 es A7 c7 ls q _ W (Kd.C_below hr5 h.1) hc5 (Kd.C_below hr6 h.1) hc6 (Kd.C_below hr7 h.1) hc7 hkc)
      clear hkc hr5 hr6 hr7
      go_enter Try.func6, Try.ntmps6
      go_wp2_with fail
      refine (H1.out _).mono ?_
      rintro e w' ⟨rfl, hB⟩
      have S1 := Lib.hid (S0.out.below hB)
      clear hB S0
      obtain ⟨zS1_0, zS1_1, zS1_2, zS1_3, zS1_4, zS1_5, zS1_6, zS1_7, zS1_8, yS1_0, yS1_1, yS1_2, yS1_3⟩ := S1.out.cells
      go_wp2_with fail
      refine (H2.out _ S1.out).mono ?_
      rintro e w' ⟨rfl, hB⟩
      have S2 := Lib.hid (S1.out.below hB)
      clear hB S1 zS1_0 zS1_1 zS1_2 zS1_3 zS1_4 zS1_5 zS1_6 zS1_7 zS1_8 yS1_0 yS1_1 yS1_2 yS1_3
      obtain ⟨zS2_0, zS2_1, zS2_2, zS2_3, zS2_4, zS2_5, zS2_6, zS2_7, zS2_8, yS2_0, yS2_1, yS2_2, yS2_3⟩ := S2.out.cells
      go_wp2
      go_ret
      exact ⟨by first | rfl | simp, S2.out.1⟩
    have e2 : decide ((es.length : Int) ≤ i) = false := decide_eq_false c2
    have p0 : 0 ≤ i := by omega
    have p1 : i < (es.length : Int) := by omega
    have H2 := Lib.hid (fun W (h : LnB w w.heap.size #[.int .i64 hosts, .int .i64 cyc, .int .i64 dly, .int .i64 win, .int .i64 prec, .slice A5 ds.length c5, .slice A6 es.length c6, .slice A7 ls.length c7, .int .i64 q] #[.int .i32 o0, .int .i32 o1, .int .i32 o2, .int .i32 o3] W) => tocsinref08_Check.calls kc hosts cyc dly win prec A5 c5 ds A6 c6 es A7 c7 ls q _ W (Kd.C_below hr5 h.1) hc5 (Kd.C_below hr6 h.1) hc6 (Kd.C_below hr7 h.1) hc7 hkc)
    obtain ⟨ad, ea, hx0, hx1, hx2, hx3⟩ := at_T40 hr6 i p0 p1
    subst ea
    have K := zero_ok c0
    have hsp := K.span
    have g1 := withinV_in (n := o0) (most := dly) (by omega)
    have g2 := withinV_in (n := o1) (most := 2 * prec) (by omega)
    have g3 := withinV_in (n := o2) (most := dly) (by omega)
    have g4 := withinV_in (n := o3) (most := 2 * prec) (by omega)
    obtain ⟨hbd, hS, hR, hL, hT⟩ := lands_plain hs p0 p1 c0 (withinV o0 dly) (withinV o1 (2 * prec) - prec) (withinV o2 dly) (withinV o3 (2 * prec) - prec) g1 (by omega) g3 (by omega)
    have htt := time_in (rd_T40 es i).f3
    have HW1 := Lib.hid (fun W => within_calls o0 dly (by omega) W)
    have HW2 := Lib.hid (fun W => within_calls o2 dly (by omega) W)
    have HK1 := Lib.hid (fun W E (h : LnE w w.heap.size #[.int .i64 hosts, .int .i64 cyc, .int .i64 dly, .int .i64 win, .int .i64 prec, .slice A5 ds.length c5, .slice (some ad) es.length c6, .slice A7 ls.length c7, .int .i64 q] #[.int .i32 o0, .int .i32 o1, .int .i32 o2, .int .i32 o3] E #[.int .i64 (rd_T40 es i).f0, .int .u32 (rd_T40 es i).f1, .int .i64 (rd_T40 es i).f2, .int .i64 (rd_T40 es i).f3] (.func (.func 23) #[] #[]) W) => skew_calls o1 w.heap.size (E + 1) W (by omega) h.1.2.1 h.2.2)
    have HK2 := Lib.hid (fun W E (h : LnE w w.heap.size #[.int .i64 hosts, .int .i64 cyc, .int .i64 dly, .int .i64 win, .int .i64 prec, .slice A5 ds.length c5, .slice (some ad) es.length c6, .slice A7 ls.length c7, .int .i64 q] #[.int .i32 o0, .int .i32 o1, .int .i32 o2, .int .i32 o3] E #[.int .i64 (rd_T40 es i).f0, .int .u32 (rd_T40 es i).f1, .int .i64 (rd_T40 es i).f2, .int .i64 (rd_T40 es i).f3] (.func (.func 23) #[] #[]) W) => skew_calls o3 w.heap.size (E + 1) W (by omega) h.1.2.1 h.2.2)
    have HTm := Lib.hid (fun W => frame_Time.calls (rd_T40 es i).f3 _ W (time_f (rd_T40 es i).f3))
    have k1 : wrap64 (3 * cyc) = 3 * cyc := w64 (by omega)
    have kat : wrap64 (wrap64 (wrap64 (3 * cyc + (rd_T40 es i).f2 + timeV (rd_T40 es i).f3) + withinV o0 dly) + (withinV o1 (2 * prec) - prec)) = 3 * cyc + (rd_T40 es i).f2 + timeV (rd_T40 es i).f3 + withinV o0 dly + (withinV o1 (2 * prec) - prec) := by
      rw [w64 (x := 3 * cyc + (rd_T40 es i).f2 + timeV (rd_T40 es i).f3) (by omega), w64 (x := 3 * cyc + (rd_T40 es i).f2 + timeV (rd_T40 es i).f3 + withinV o0 dly) (by omega), w64 (by omega)]
    have kf : wrap64 (wrap64 (3 * cyc) + fwdV dly prec (rd_T40 es i)) = 3 * cyc + fwdV dly prec (rd_T40 es i) := by rw [k1, w64 (by omega)]
    have kbt : wrap64 (wrap64 (wrap64 (wrap64 (wrap64 (3 * cyc) + fwdV dly prec (rd_T40 es i)) + timeV (rd_T40 es i).f3) + withinV o2 dly) + (withinV o3 (2 * prec) - prec)) = 3 * cyc + fwdV dly prec (rd_T40 es i) + timeV (rd_T40 es i).f3 + withinV o2 dly + (withinV o3 (2 * prec) - prec) := by
      rw [kf, w64 (x := 3 * cyc + fwdV dly prec (rd_T40 es i) + timeV (rd_T40 es i).f3) (by omega), w64 (x := 3 * cyc + fwdV dly prec (rd_T40 es i) + timeV (rd_T40 es i).f3 + withinV o2 dly) (by omega), w64 (by omega)]
    rw [← kat] at hR
    rw [← kbt] at hL
    rw [← kf] at hR
    clear kat kbt kf g1 g2 g3 g4 hbd hsp htt
    generalize 3 * cyc + (rd_T40 es i).f2 = sv at hS hR
    rw [← k1] at hS
    clear k1
    generalize fwdV dly prec (rd_T40 es i) = F at hR hL hT
    generalize (rd_T40 es i).f2 + timeV (rd_T40 es i).f3 - prec = t1 at hT
    generalize (rd_T40 es i).f2 + timeV (rd_T40 es i).f3 + dly + prec = t2 at hT
    generalize F + timeV (rd_T40 es i).f3 - prec = t4 at hT
    generalize lateV dly prec (rd_T40 es i) = t5 at hT
    have HS := Lib.hid (fun W (h : Below w.heap.size w W) => plan_Send.calls hosts cyc dly win prec A5 c5 ds (some ad) c6 es A7 c7 ls q _ _ _ _ W (Kd.C_below hr5 h) hc5 (Kd.C_below hr6 h) hc6 (Kd.C_below hr7 h) hc7 hS)
    have HR := Lib.hid (fun W (h : Below w.heap.size w W) => plan_Relay.calls hosts cyc dly win prec A5 c5 ds (some ad) c6 es A7 c7 ls q _ _ _ _ W (Kd.C_below hr5 h) hc5 (Kd.C_below hr6 h) hc6 (Kd.C_below hr7 h) hc7 hR)
    have HL := Lib.hid (fun W (h : Below w.heap.size w W) => plan_Land.calls hosts cyc dly win prec A5 c5 ds (some ad) c6 es A7 c7 ls q _ _ _ _ W (Kd.C_below hr5 h) hc5 (Kd.C_below hr6 h) hc6 (Kd.C_below hr7 h) hc7 hL)
    have HTs := Lib.hid (fun W (h : Below w.heap.size w W) => tocsinref08_Times.calls hosts cyc dly win prec A5 c5 ds (some ad) c6 es A7 c7 ls q _ _ _ _ _ _ _ _ _ W (Kd.C_below hr5 h) hc5 (Kd.C_below hr6 h) hc6 (Kd.C_below hr7 h) hc7 hT)
    clear hS hR hL hT hr5 hr6 hr7 K c0
    generalize timeV (rd_T40 es i).f3 = T at HTm HR HL
    generalize withinV o0 dly = v1 at HW1 HR
    generalize withinV o1 (2 * prec) - prec = v2 at HK1 HR
    generalize withinV o2 dly = v3 at HW2 HL
    generalize withinV o3 (2 * prec) - prec = v4 at HK2 HL
    go_enter Try.func6, Try.ntmps6
    go_wp2_with fail
    refine (H1.out _).mono ?_
    rintro e w' ⟨rfl, hB⟩
    have S1 := Lib.hid (S0.out.below hB)
    clear hB S0
    obtain ⟨zS1_0, zS1_1, zS1_2, zS1_3, zS1_4, zS1_5, zS1_6, zS1_7, zS1_8, yS1_0, yS1_1, yS1_2, yS1_3⟩ := S1.out.cells
    go_wp2_with fail
    refine (H2.out _ S1.out).mono ?_
    rintro e wk ⟨rfl, hB⟩
    have S2 := Lib.hid (S1.out.below hB)
    clear hB S1 zS1_0 zS1_1 zS1_2 zS1_3 zS1_4 zS1_5 zS1_6 zS1_7 zS1_8 yS1_0 yS1_1 yS1_2 yS1_3
    obtain ⟨zS2_0, zS2_1, zS2_2, zS2_3, zS2_4, zS2_5, zS2_6, zS2_7, zS2_8, yS2_0, yS2_1, yS2_2, yS2_3⟩ := S2.out.cells
    replace hx0 := (S2.out.1.cell (World.block_lt_of_cell? w _ hx0)).trans hx0
    replace hx1 := (S2.out.1.cell (World.block_lt_of_cell? w _ hx1)).trans hx1
    replace hx2 := (S2.out.1.cell (World.block_lt_of_cell? w _ hx2)).trans hx2
    replace hx3 := (S2.out.1.cell (World.block_lt_of_cell? w _ hx3)).trans hx3
    have l0 := blk_lt S2.out.2.1
    have l1 := blk_lt S2.out.2.2
    clear H1 H2 hkc
    go_wp2_with fail
    have S3 := Lib.hid (LnE.start S2.out #[.int .i64 (rd_T40 es i).f0, .int .u32 (rd_T40 es i).f1, .int .i64 (rd_T40 es i).f2, .int .i64 (rd_T40 es i).f3] (.func (.func 23) #[] #[]))
    refine (HS.out _ S3.out.bel).mono ?_
    rintro e w4 ⟨rfl, hB⟩
    have S4 := Lib.hid (S3.out.below hB)
    clear hB S3 S2 HS hx0 hx1 hx2 hx3 l0 l1 zS2_0 zS2_1 zS2_2 zS2_3 zS2_4 zS2_5 zS2_6 zS2_7 zS2_8 yS2_0 yS2_1 yS2_2 yS2_3
    generalize wk.heap.size = E at S4 ⊢
    clear wk
    obtain ⟨z0, z1, z2, z3, z4, z5, z6, z7, z8, y0, y1, y2, y3, x0, x1, x2, x3, x4⟩ := S4.out.cells
    have eg1 : ∀ args w, (callFunc 23 args).run Try.prog w = .ok (.enter 23 args) w := ent Try.func23 (by kernel_rfl) rfl
    have eg2 : ∀ args w, (callFunc 24 args).run Try.prog w = .ok (.enter 24 args) w := ent Try.func24 (by kernel_rfl) rfl
    go_wp2_with fail
    refine start_ (n := 18) (S := (LnE w w.heap.size #[.int .i64 hosts, .int .i64 cyc, .int .i64 dly, .int .i64 win, .int .i64 prec, .slice A5 ds.length c5, .slice (some ad) es.length c6, .slice A7 ls.length c7, .int .i64 q] #[.int .i32 o0, .int .i32 o1, .int .i32 o2, .int .i32 o3] E #[.int .i64 (rd_T40 es i).f0, .int .u32 (rd_T40 es i).f1, .int .i64 (rd_T40 es i).f2, .int .i64 (rd_T40 es i).f3] (.func (.func 23) #[] #[]))) (ds := []) #[false, false, false, false, false, false, false, false, false, false, false, false, false, false, false, false, false, false] (by kernel_rfl) rfl rfl (S4.out.below (below_drew (Below.refl _ _))) (fun hHeld => ?_)
    refine pure_ (i := 0) (N := (some 50)) (v := ?_) (a' := ?_) #[true, false, false, false, false, false, false, false, false, false, false, false, false, false, false, false, false, false] rfl rfl (by kernel_rfl) (fun _ _ _ h => h) (Or.inl ⟨by rfl, ?_⟩) ?_ ?_
    rotate_left
    · intro w'
      go_simp
      with_reducible rfl
    rotate_left
    · simp only [Act.put, List.setIfInBounds_toArray, List.set_cons_zero, List.set_cons_succ, i64_w, i32_w]
      rfl
    refine pure_ (i := 1) (N := (some 51)) (v := ?_) (a' := ?_) #[true, true, false, false, false, false, false, false, false, false, false, false, false, false, false, false, false, false] rfl rfl (by kernel_rfl) (fun _ _ _ h => h) (Or.inl ⟨by rfl, ?_⟩) ?_ ?_
    rotate_left
    · intro w'
      go_simp
      with_reducible rfl
    rotate_left
    · simp only [Act.put, List.setIfInBounds_toArray, List.set_cons_zero, List.set_cons_succ, i64_w, i32_w]
      rfl
    refine pure_ (i := 6) (N := (some 56)) (v := ?_) (a' := ?_) #[true, true, false, false, false, false, true, false, false, false, false, false, false, false, false, false, false, false] rfl rfl (by kernel_rfl) (fun _ _ _ h => h) (Or.inl ⟨by rfl, ?_⟩) ?_ ?_
    rotate_left
    · intro w'
      go_simp
      with_reducible rfl
    rotate_left
    · simp only [Act.put, List.setIfInBounds_toArray, List.set_cons_zero, List.set_cons_succ, i64_w, i32_w]
      rfl
    refine pure_ (i := 8) (N := (some 58)) (v := ?_) (a' := ?_) #[true, true, false, false, false, false, true, false, true, false, false, false, false, false, false, false, false, false] rfl rfl (by kernel_rfl) (fun _ _ _ h => h) (Or.inl ⟨by rfl, ?_⟩) ?_ ?_
    rotate_left
    · intro w'
      go_simp
      with_reducible rfl
    rotate_left
    · simp only [Act.put, List.setIfInBounds_toArray, List.set_cons_zero, List.set_cons_succ, i64_w, i32_w]
      rfl
    refine pure_ (i := 12) (N := (some 62)) (v := ?_) (a' := ?_) #[true, true, false, false, false, false, true, false, true, false, false, false, true, false, false, false, false, false] rfl rfl (by kernel_rfl) (fun _ _ _ h => h) (Or.inl ⟨by rfl, ?_⟩) ?_ ?_
    rotate_left
    · intro w'
      go_simp
      with_reducible rfl
    rotate_left
    · simp only [Act.put, List.setIfInBounds_toArray, List.set_cons_zero, List.set_cons_succ, i64_w, i32_w]
      rfl
    refine pure_ (i := 13) (N := (some 63)) (v := ?_) (a' := ?_) #[true, true, false, false, false, false, true, false, true, false, false, false, true, true, false, false, false, false] rfl rfl (by kernel_rfl) (fun _ _ _ h => h) (Or.inl ⟨by rfl, ?_⟩) ?_ ?_
    rotate_left
    · intro w'
      go_simp
      with_reducible rfl
    rotate_left
    · simp only [Act.put, List.setIfInBounds_toArray, List.set_cons_zero, List.set_cons_succ, i64_w, i32_w]
      rfl
    refine take_ (i := 2) (N := (some 52)) (v := ?_) (a' := ?_) #[true, true, true, false, false, false, true, false, true, false, false, false, true, true, false, false, false, false] rfl rfl (by kernel_rfl) (fun _ _ _ h => h) (Or.inl ⟨by rfl, ?_⟩) hHeld ?_ ?_
    rotate_left
    · intro w' hS'
      obtain ⟨s0, s1, s2, s3, s4, s5, s6, s7, s8, s9, s10, s11, s12, s13, s14, s15, s16, s17⟩ := LnE.cells hS'
      go_simp
      with_reducible rfl
    rotate_left
    · simp only [Act.put, List.setIfInBounds_toArray, List.set_cons_zero, List.set_cons_succ, i64_w, i32_w]
      rfl
    refine take_ (i := 5) (N := (some 55)) (v := ?_) (a' := ?_) #[true, true, true, false, false, true, true, false, true, false, false, false, true, true, false, false, false, false] rfl rfl (by kernel_rfl) (fun _ _ _ h => h) (Or.inl ⟨by rfl, ?_⟩) hHeld ?_ ?_
    rotate_left
    · intro w' hS'
      obtain ⟨s0, s1, s2, s3, s4, s5, s6, s7, s8, s9, s10, s11, s12, s13, s14, s15, s16, s17⟩ := LnE.cells hS'
      go_simp
      with_reducible rfl
    rotate_left
    · simp only [Act.put, List.setIfInBounds_toArray, List.set_cons_zero, List.set_cons_succ, i64_w, i32_w]
      rfl
    refine take_ (i := 7) (N := (some 57)) (v := ?_) (a' := ?_) #[true, true, true, false, false, true, true, true, true, false, false, false, true, true, false, false, false, false] rfl rfl (by kernel_rfl) (fun _ _ _ h => h) (Or.inl ⟨by rfl, ?_⟩) hHeld ?_ ?_
    rotate_left
    · intro w' hS'
      obtain ⟨s0, s1, s2, s3, s4, s5, s6, s7, s8, s9, s10, s11, s12, s13, s14, s15, s16, s17⟩ := LnE.cells hS'
      go_simp
      with_reducible rfl
    rotate_left
    · simp only [Act.put, List.setIfInBounds_toArray, List.set_cons_zero, List.set_cons_succ, i64_w, i32_w]
      rfl
    refine take_ (i := 9) (N := (some 59)) (v := ?_) (a' := ?_) #[true, true, true, false, false, true, true, true, true, true, false, false, true, true, false, false, false, false] rfl rfl (by kernel_rfl) (fun _ _ _ h => h) (Or.inl ⟨by rfl, ?_⟩) hHeld ?_ ?_
    rotate_left
    · intro w' hS'
      obtain ⟨s0, s1, s2, s3, s4, s5, s6, s7, s8, s9, s10, s11, s12, s13, s14, s15, s16, s17⟩ := LnE.cells hS'
      go_simp
      with_reducible rfl
    rotate_left
    · simp only [Act.put, List.setIfInBounds_toArray, List.set_cons_zero, List.set_cons_succ, i64_w, i32_w]
      rfl
    refine take_ (i := 14) (N := (some 64)) (v := ?_) (a' := ?_) #[true, true, true, false, false, true, true, true, true, true, false, false, true, true, true, false, false, false] rfl rfl (by kernel_rfl) (fun _ _ _ h => h) (Or.inl ⟨by rfl, ?_⟩) hHeld ?_ ?_
    rotate_left
    · intro w' hS'
      obtain ⟨s0, s1, s2, s3, s4, s5, s6, s7, s8, s9, s10, s11, s12, s13, s14, s15, s16, s17⟩ := LnE.cells hS'
      go_simp
      with_reducible rfl
    rotate_left
    · simp only [Act.put, List.setIfInBounds_toArray, List.set_cons_zero, List.set_cons_succ, i64_w, i32_w]
      rfl
    refine one_ (i := 3) (N := (some 53)) #[true, true, true, true, false, true, true, true, true, true, false, false, true, true, true, false, false, false] rfl rfl (by kernel_rfl) (by decide) (fun K hK => ?_)
    refine goes_ Try.func21 (by kernel_rfl) rfl #[.int .i64 (rd_T40 es i).f3] (by rfl) rfl rfl (by (try simp only [List.map_toArray, List.map_cons, List.map_nil]); first | done | rfl) ?_
    with_reducible refine (HTm.out _).mono ?_
    rintro e w' ⟨rfl, hb'⟩
    refine ⟨_, rfl, ?_⟩
    have hS2 := LnE.below hHeld hb'
    clear hb' hHeld
    refine hK.out _ _ hS2 (fun hHeld => ?_)
    clear hK K hS2
    refine norm_ (a' := ?_) ?_ ?_
    rotate_left
    · show Act.put _ (some 53) _ = _
      simp only [Act.put, List.setIfInBounds_toArray, List.set_cons_zero, List.set_cons_succ, i64_w, i32_w]
      rfl
    refine pure_ (i := 4) (N := (some 54)) (v := ?_) (a' := ?_) #[true, true, true, true, true, true, true, true, true, true, false, false, true, true, true, false, false, false] rfl rfl (by kernel_rfl) (fun _ _ _ h => h) (Or.inl ⟨by rfl, ?_⟩) ?_ ?_
    rotate_left
    · intro w'
      go_simp
      with_reducible rfl
    rotate_left
    · simp only [Act.put, List.setIfInBounds_toArray, List.set_cons_zero, List.set_cons_succ, i64_w, i32_w]
      rfl
    refine one_ (i := 10) (N := (some 60)) #[true, true, true, true, true, true, true, true, true, true, true, false, true, true, true, false, false, false] rfl rfl (by kernel_rfl) (by decide) (fun K hK => ?_)
    refine call_ 23 #[.int .i32 o0, .int .i64 dly] (by rfl) rfl (by unfold execOp; simp [resolve, Deferred.ofValue, invoke, Act.eval, eg1]) ?_
    with_reducible refine (HW1.out _).mono ?_
    rintro e w' ⟨rfl, hb'⟩
    refine ⟨_, rfl, ?_⟩
    have hS2 := LnE.below hHeld hb'
    clear hb' hHeld
    refine hK.out _ _ hS2 (fun hHeld => ?_)
    clear hK K hS2
    refine norm_ (a' := ?_) ?_ ?_
    rotate_left
    · show Act.put _ (some 60) _ = _
      simp only [Act.put, List.setIfInBounds_toArray, List.set_cons_zero, List.set_cons_succ, i64_w, i32_w]
      rfl
    refine pure_ (i := 11) (N := (some 61)) (v := ?_) (a' := ?_) #[true, true, true, true, true, true, true, true, true, true, true, true, true, true, true, false, false, false] rfl rfl (by kernel_rfl) (fun _ _ _ h => h) (Or.inl ⟨by rfl, ?_⟩) ?_ ?_
    rotate_left
    · intro w'
      go_simp
      with_reducible rfl
    rotate_left
    · simp only [Act.put, List.setIfInBounds_toArray, List.set_cons_zero, List.set_cons_succ, i64_w, i32_w]
      rfl
    refine one_ (i := 15) (N := (some 65)) #[true, true, true, true, true, true, true, true, true, true, true, true, true, true, true, true, false, false] rfl rfl (by kernel_rfl) (by decide) (fun K hK => ?_)
    refine call_ 24 #[.int .i32 o1, .pointer (some ⟨E + 1, 0, none⟩), .pointer (some ⟨w.heap.size, 0, none⟩)] (by rfl) rfl (by unfold execOp; simp [resolve, Deferred.ofValue, invoke, Act.eval, eg2]) ?_
    with_reducible refine (HK1.out _ E hHeld).mono ?_
    rintro e w' ⟨rfl, hb'⟩
    refine ⟨_, rfl, ?_⟩
    have hS2 := LnE.below hHeld hb'
    clear hb' hHeld
    refine hK.out _ _ hS2 (fun hHeld => ?_)
    clear hK K hS2
    refine norm_ (a' := ?_) ?_ ?_
    rotate_left
    · show Act.put _ (some 65) _ = _
      simp only [Act.put, List.setIfInBounds_toArray, List.set_cons_zero, List.set_cons_succ, i64_w, i32_w]
      rfl
    refine pure_ (i := 16) (N := (some 66)) (v := ?_) (a' := ?_) #[true, true, true, true, true, true, true, true, true, true, true, true, true, true, true, true, true, false] rfl rfl (by kernel_rfl) (fun _ _ _ h => h) (Or.inl ⟨by rfl, ?_⟩) ?_ ?_
    rotate_left
    · intro w'
      go_simp
      with_reducible rfl
    rotate_left
    · simp only [Act.put, List.setIfInBounds_toArray, List.set_cons_zero, List.set_cons_succ, i64_w, i32_w]
      rfl
    refine pure_ (i := 17) (N := (some 13)) (v := ?_) (a' := ?_) #[true, true, true, true, true, true, true, true, true, true, true, true, true, true, true, true, true, true] rfl rfl (by kernel_rfl) (fun _ _ _ h => h) (Or.inl ⟨by rfl, ?_⟩) ?_ ?_
    rotate_left
    · intro w'
      go_simp
      with_reducible rfl
    rotate_left
    · simp only [Act.put, List.setIfInBounds_toArray, List.set_cons_zero, List.set_cons_succ, i64_w, i32_w]
      rfl
    refine done_ (by kernel_rfl) ?_
    have S5 := Lib.hid hHeld
    clear hHeld S4 z0 z1 z2 z3 z4 z5 z6 z7 z8 y0 y1 y2 y3 x0 x1 x2 x3 x4
    obtain ⟨z0, z1, z2, z3, z4, z5, z6, z7, z8, y0, y1, y2, y3, x0, x1, x2, x3, x4⟩ := S5.out.cells
    go_wp2_with fail
    refine (HR.out _ S5.out.bel).mono ?_
    rintro e w6 ⟨rfl, hB⟩
    have S6 := Lib.hid (S5.out.below hB)
    clear hB S5 HR z0 z1 z2 z3 z4 z5 z6 z7 z8 y0 y1 y2 y3 x0 x1 x2 x3 x4
    obtain ⟨z0, z1, z2, z3, z4, z5, z6, z7, z8, y0, y1, y2, y3, x0, x1, x2, x3, x4⟩ := S6.out.cells
    go_wp2_with fail
    refine start_ (n := 15) (S := (LnE w w.heap.size #[.int .i64 hosts, .int .i64 cyc, .int .i64 dly, .int .i64 win, .int .i64 prec, .slice A5 ds.length c5, .slice (some ad) es.length c6, .slice A7 ls.length c7, .int .i64 q] #[.int .i32 o0, .int .i32 o1, .int .i32 o2, .int .i32 o3] E #[.int .i64 (rd_T40 es i).f0, .int .u32 (rd_T40 es i).f1, .int .i64 (rd_T40 es i).f2, .int .i64 (rd_T40 es i).f3] (.func (.func 23) #[] #[]))) (ds := []) #[false, false, false, false, false, false, false, false, false, false, false, false, false, false, false] (by kernel_rfl) rfl rfl (S6.out.below (below_drew (Below.refl _ _))) (fun hHeld => ?_)
    refine pure_ (i := 0) (N := (some 74)) (v := ?_) (a' := ?_) #[true, false, false, false, false, false, false, false, false, false, false, false, false, false, false] rfl rfl (by kernel_rfl) (fun _ _ _ h => h) (Or.inl ⟨by rfl, ?_⟩) ?_ ?_
    rotate_left
    · intro w'
      go_simp
      with_reducible rfl
    rotate_left
    · simp only [Act.put, List.setIfInBounds_toArray, List.set_cons_zero, List.set_cons_succ, i64_w, i32_w]
      rfl
    refine pure_ (i := 1) (N := (some 75)) (v := ?_) (a' := ?_) #[true, true, false, false, false, false, false, false, false, false, false, false, false, false, false] rfl rfl (by kernel_rfl) (fun _ _ _ h => h) (Or.inl ⟨by rfl, ?_⟩) ?_ ?_
    rotate_left
    · intro w'
      go_simp
      with_reducible rfl
    rotate_left
    · simp only [Act.put, List.setIfInBounds_toArray, List.set_cons_zero, List.set_cons_succ, i64_w, i32_w]
      rfl
    refine pure_ (i := 2) (N := (some 76)) (v := ?_) (a' := ?_) #[true, true, true, false, false, false, false, false, false, false, false, false, false, false, false] rfl rfl (by kernel_rfl) (fun _ _ _ h => h) (Or.inl ⟨by rfl, ?_⟩) ?_ ?_
    rotate_left
    · intro w'
      go_simp
      with_reducible rfl
    rotate_left
    · simp only [Act.put, List.setIfInBounds_toArray, List.set_cons_zero, List.set_cons_succ, i64_w, i32_w]
      rfl
    refine pure_ (i := 3) (N := (some 77)) (v := ?_) (a' := ?_) #[true, true, true, true, false, false, false, false, false, false, false, false, false, false, false] rfl rfl (by kernel_rfl) (fun _ _ _ h => h) (Or.inl ⟨by rfl, ?_⟩) ?_ ?_
    rotate_left
    · intro w'
      go_simp
      with_reducible rfl
    rotate_left
    · simp only [Act.put, List.setIfInBounds_toArray, List.set_cons_zero, List.set_cons_succ, i64_w, i32_w]
      rfl
    refine pure_ (i := 4) (N := (some 78)) (v := ?_) (a' := ?_) #[true, true, true, true, true, false, false, false, false, false, false, false, false, false, false] rfl rfl (by kernel_rfl) (fun _ _ _ h => h) (Or.inl ⟨by rfl, ?_⟩) ?_ ?_
    rotate_left
    · intro w'
      go_simp
      with_reducible rfl
    rotate_left
    · simp only [Act.put, List.setIfInBounds_toArray, List.set_cons_zero, List.set_cons_succ, i64_w, i32_w]
      rfl
    refine pure_ (i := 5) (N := (some 79)) (v := ?_) (a' := ?_) #[true, true, true, true, true, true, false, false, false, false, false, false, false, false, false] rfl rfl (by kernel_rfl) (fun _ _ _ h => h) (Or.inl ⟨by rfl, ?_⟩) ?_ ?_
    rotate_left
    · intro w'
      go_simp
      with_reducible rfl
    rotate_left
    · simp only [Act.put, List.setIfInBounds_toArray, List.set_cons_zero, List.set_cons_succ, i64_w, i32_w]
      rfl
    refine take_ (i := 6) (N := (some 80)) (v := ?_) (a' := ?_) #[true, true, true, true, true, true, true, false, false, false, false, false, false, false, false] rfl rfl (by kernel_rfl) (fun _ _ _ h => h) (Or.inl ⟨by rfl, ?_⟩) hHeld ?_ ?_
    rotate_left
    · intro w' hS'
      obtain ⟨s0, s1, s2, s3, s4, s5, s6, s7, s8, s9, s10, s11, s12, s13, s14, s15, s16, s17⟩ := LnE.cells hS'
      go_simp
      with_reducible rfl
    rotate_left
    · simp only [Act.put, List.setIfInBounds_toArray, List.set_cons_zero, List.set_cons_succ, i64_w, i32_w]
      rfl
    refine pure_ (i := 7) (N := (some 81)) (v := ?_) (a' := ?_) #[true, true, true, true, true, true, true, true, false, false, false, false, false, false, false] rfl rfl (by kernel_rfl) (fun _ _ _ h => h) (Or.inl ⟨by rfl, ?_⟩) ?_ ?_
    rotate_left
    · intro w'
      go_simp
      with_reducible rfl
    rotate_left
    · simp only [Act.put, List.setIfInBounds_toArray, List.set_cons_zero, List.set_cons_succ, i64_w, i32_w]
      rfl
    refine take_ (i := 8) (N := (some 82)) (v := ?_) (a' := ?_) #[true, true, true, true, true, true, true, true, true, false, false, false, false, false, false] rfl rfl (by kernel_rfl) (fun _ _ _ h => h) (Or.inl ⟨by rfl, ?_⟩) hHeld ?_ ?_
    rotate_left
    · intro w' hS'
      obtain ⟨s0, s1, s2, s3, s4, s5, s6, s7, s8, s9, s10, s11, s12, s13, s14, s15, s16, s17⟩ := LnE.cells hS'
      go_simp
      with_reducible rfl
    rotate_left
    · simp only [Act.put, List.setIfInBounds_toArray, List.set_cons_zero, List.set_cons_succ, i64_w, i32_w]
      rfl
    refine take_ (i := 9) (N := (some 83)) (v := ?_) (a' := ?_) #[true, true, true, true, true, true, true, true, true, true, false, false, false, false, false] rfl rfl (by kernel_rfl) (fun _ _ _ h => h) (Or.inl ⟨by rfl, ?_⟩) hHeld ?_ ?_
    rotate_left
    · intro w' hS'
      obtain ⟨s0, s1, s2, s3, s4, s5, s6, s7, s8, s9, s10, s11, s12, s13, s14, s15, s16, s17⟩ := LnE.cells hS'
      go_simp
      with_reducible rfl
    rotate_left
    · simp only [Act.put, List.setIfInBounds_toArray, List.set_cons_zero, List.set_cons_succ, i64_w, i32_w]
      rfl
    refine one_ (i := 10) (N := (some 84)) #[true, true, true, true, true, true, true, true, true, true, true, false, false, false, false] rfl rfl (by kernel_rfl) (by decide) (fun K hK => ?_)
    refine goes_ Try.func25 (by kernel_rfl) rfl #[.agg #[.int .i64 hosts, .int .i64 cyc, .int .i64 dly, .int .i64 win, .int .i64 prec, .slice A5 ds.length c5, .slice (some ad) es.length c6, .slice A7 ls.length c7, .int .i64 q], .agg #[.int .i64 (rd_T40 es i).f0, .int .u32 (rd_T40 es i).f1, .int .i64 (rd_T40 es i).f2, .int .i64 (rd_T40 es i).f3]] (by rfl) rfl rfl (by (try simp only [List.map_toArray, List.map_cons, List.map_nil]); first | done | rfl) ?_
    with_reducible refine (HTs.out _ hHeld.bel).mono ?_
    rintro e w' ⟨rfl, hb'⟩
    refine ⟨_, rfl, ?_⟩
    have hS2 := LnE.below hHeld hb'
    clear hb' hHeld
    refine hK.out _ _ hS2 (fun hHeld => ?_)
    clear hK K hS2
    refine norm_ (a' := ?_) ?_ ?_
    rotate_left
    · show Act.put _ (some 84) _ = _
      simp only [Act.put, List.setIfInBounds_toArray, List.set_cons_zero, List.set_cons_succ, i64_w, i32_w]
      rfl
    refine pure_ (i := 11) (N := (some 85)) (v := ?_) (a' := ?_) #[true, true, true, true, true, true, true, true, true, true, true, true, false, false, false] rfl rfl (by kernel_rfl) (fun _ _ _ h => h) (Or.inl ⟨by rfl, ?_⟩) ?_ ?_
    rotate_left
    · intro w'
      go_simp
      with_reducible rfl
    rotate_left
    · simp only [Act.put, List.setIfInBounds_toArray, List.set_cons_zero, List.set_cons_succ, i64_w, i32_w]
      rfl
    refine pure_ (i := 12) (N := (some 86)) (v := ?_) (a' := ?_) #[true, true, true, true, true, true, true, true, true, true, true, true, true, false, false] rfl rfl (by kernel_rfl) (fun _ _ _ h => h) (Or.inl ⟨by rfl, ?_⟩) ?_ ?_
    rotate_left
    · intro w'
      go_simp
      with_reducible rfl
    rotate_left
    · simp only [Act.put, List.setIfInBounds_toArray, List.set_cons_zero, List.set_cons_succ, i64_w, i32_w]
      rfl
    refine pure_ (i := 13) (N := (some 87)) (v := ?_) (a' := ?_) #[true, true, true, true, true, true, true, true, true, true, true, true, true, true, false] rfl rfl (by kernel_rfl) (fun _ _ _ h => h) (Or.inl ⟨by rfl, ?_⟩) ?_ ?_
    rotate_left
    · intro w'
      go_simp
      with_reducible rfl
    rotate_left
    · simp only [Act.put, List.setIfInBounds_toArray, List.set_cons_zero, List.set_cons_succ, i64_w, i32_w]
      rfl
    refine pure_ (i := 14) (N := (some 88)) (v := ?_) (a' := ?_) #[true, true, true, true, true, true, true, true, true, true, true, true, true, true, true] rfl rfl (by kernel_rfl) (fun _ _ _ h => h) (Or.inl ⟨by rfl, ?_⟩) ?_ ?_
    rotate_left
    · intro w'
      go_simp
      with_reducible rfl
    rotate_left
    · simp only [Act.put, List.setIfInBounds_toArray, List.set_cons_zero, List.set_cons_succ, i64_w, i32_w]
      rfl
    refine done_ (by kernel_rfl) ?_
    have S7 := Lib.hid hHeld
    clear hHeld S6 z0 z1 z2 z3 z4 z5 z6 z7 z8 y0 y1 y2 y3 x0 x1 x2 x3 x4
    obtain ⟨z0, z1, z2, z3, z4, z5, z6, z7, z8, y0, y1, y2, y3, x0, x1, x2, x3, x4⟩ := S7.out.cells
    go_wp2_with fail
    refine start_ (n := 25) (S := (LnE w w.heap.size #[.int .i64 hosts, .int .i64 cyc, .int .i64 dly, .int .i64 win, .int .i64 prec, .slice A5 ds.length c5, .slice (some ad) es.length c6, .slice A7 ls.length c7, .int .i64 q] #[.int .i32 o0, .int .i32 o1, .int .i32 o2, .int .i32 o3] E #[.int .i64 (rd_T40 es i).f0, .int .u32 (rd_T40 es i).f1, .int .i64 (rd_T40 es i).f2, .int .i64 (rd_T40 es i).f3] (.func (.func 23) #[] #[]))) (ds := []) #[false, false, false, false, false, false, false, false, false, false, false, false, false, false, false, false, false, false, false, false, false, false, false, false, false] (by kernel_rfl) rfl rfl (S7.out.below (below_drew (Below.refl _ _))) (fun hHeld => ?_)
    refine pure_ (i := 1) (N := (some 91)) (v := ?_) (a' := ?_) #[false, true, false, false, false, false, false, false, false, false, false, false, false, false, false, false, false, false, false, false, false, false, false, false, false] rfl rfl (by kernel_rfl) (fun _ _ _ h => h) (Or.inl ⟨by rfl, ?_⟩) ?_ ?_
    rotate_left
    · intro w'
      go_simp
      with_reducible rfl
    rotate_left
    · simp only [Act.put, List.setIfInBounds_toArray, List.set_cons_zero, List.set_cons_succ, i64_w, i32_w]
      rfl
    refine pure_ (i := 2) (N := (some 92)) (v := ?_) (a' := ?_) #[false, true, true, false, false, false, false, false, false, false, false, false, false, false, false, false, false, false, false, false, false, false, false, false, false] rfl rfl (by kernel_rfl) (fun _ _ _ h => h) (Or.inl ⟨by rfl, ?_⟩) ?_ ?_
    rotate_left
    · intro w'
      go_simp
      with_reducible rfl
    rotate_left
    · simp only [Act.put, List.setIfInBounds_toArray, List.set_cons_zero, List.set_cons_succ, i64_w, i32_w]
      rfl
    refine pure_ (i := 3) (N := (some 93)) (v := ?_) (a' := ?_) #[false, true, true, true, false, false, false, false, false, false, false, false, false, false, false, false, false, false, false, false, false, false, false, false, false] rfl rfl (by kernel_rfl) (fun _ _ _ h => h) (Or.inl ⟨by rfl, ?_⟩) ?_ ?_
    rotate_left
    · intro w'
      go_simp
      with_reducible rfl
    rotate_left
    · simp only [Act.put, List.setIfInBounds_toArray, List.set_cons_zero, List.set_cons_succ, i64_w, i32_w]
      rfl
    refine pure_ (i := 8) (N := (some 98)) (v := ?_) (a' := ?_) #[false, true, true, true, false, false, false, false, true, false, false, false, false, false, false, false, false, false, false, false, false, false, false, false, false] rfl rfl (by kernel_rfl) (fun _ _ _ h => h) (Or.inl ⟨by rfl, ?_⟩) ?_ ?_
    rotate_left
    · intro w'
      go_simp
      with_reducible rfl
    rotate_left
    · simp only [Act.put, List.setIfInBounds_toArray, List.set_cons_zero, List.set_cons_succ, i64_w, i32_w]
      rfl
    refine pure_ (i := 10) (N := (some 100)) (v := ?_) (a' := ?_) #[false, true, true, true, false, false, false, false, true, false, true, false, false, false, false, false, false, false, false, false, false, false, false, false, false] rfl rfl (by kernel_rfl) (fun _ _ _ h => h) (Or.inl ⟨by rfl, ?_⟩) ?_ ?_
    rotate_left
    · intro w'
      go_simp
      with_reducible rfl
    rotate_left
    · simp only [Act.put, List.setIfInBounds_toArray, List.set_cons_zero, List.set_cons_succ, i64_w, i32_w]
      rfl
    refine pure_ (i := 14) (N := (some 104)) (v := ?_) (a' := ?_) #[false, true, true, true, false, false, false, false, true, false, true, false, false, false, true, false, false, false, false, false, false, false, false, false, false] rfl rfl (by kernel_rfl) (fun _ _ _ h => h) (Or.inl ⟨by rfl, ?_⟩) ?_ ?_
    rotate_left
    · intro w'
      go_simp
      with_reducible rfl
    rotate_left
    · simp only [Act.put, List.setIfInBounds_toArray, List.set_cons_zero, List.set_cons_succ, i64_w, i32_w]
      rfl
    refine pure_ (i := 15) (N := (some 105)) (v := ?_) (a' := ?_) #[false, true, true, true, false, false, false, false, true, false, true, false, false, false, true, true, false, false, false, false, false, false, false, false, false] rfl rfl (by kernel_rfl) (fun _ _ _ h => h) (Or.inl ⟨by rfl, ?_⟩) ?_ ?_
    rotate_left
    · intro w'
      go_simp
      with_reducible rfl
    rotate_left
    · simp only [Act.put, List.setIfInBounds_toArray, List.set_cons_zero, List.set_cons_succ, i64_w, i32_w]
      rfl
    refine take_ (i := 0) (N := (some 90)) (v := ?_) (a' := ?_) #[true, true, true, true, false, false, false, false, true, false, true, false, false, false, true, true, false, false, false, false, false, false, false, false, false] rfl rfl (by kernel_rfl) (fun _ _ _ h => h) (Or.inl ⟨by rfl, ?_⟩) hHeld ?_ ?_
    rotate_left
    · intro w' hS'
      obtain ⟨s0, s1, s2, s3, s4, s5, s6, s7, s8, s9, s10, s11, s12, s13, s14, s15, s16, s17⟩ := LnE.cells hS'
      go_simp
      with_reducible rfl
    rotate_left
    · simp only [Act.put, List.setIfInBounds_toArray, List.set_cons_zero, List.set_cons_succ, i64_w, i32_w]
      rfl
    refine take_ (i := 4) (N := (some 94)) (v := ?_) (a' := ?_) #[true, true, true, true, true, false, false, false, true, false, true, false, false, false, true, true, false, false, false, false, false, false, false, false, false] rfl rfl (by kernel_rfl) (fun _ _ _ h => h) (Or.inl ⟨by rfl, ?_⟩) hHeld ?_ ?_
    rotate_left
    · intro w' hS'
      obtain ⟨s0, s1, s2, s3, s4, s5, s6, s7, s8, s9, s10, s11, s12, s13, s14, s15, s16, s17⟩ := LnE.cells hS'
      go_simp
      with_reducible rfl
    rotate_left
    · simp only [Act.put, List.setIfInBounds_toArray, List.set_cons_zero, List.set_cons_succ, i64_w, i32_w]
      rfl
    refine take_ (i := 7) (N := (some 97)) (v := ?_) (a' := ?_) #[true, true, true, true, true, false, false, true, true, false, true, false, false, false, true, true, false, false, false, false, false, false, false, false, false] rfl rfl (by kernel_rfl) (fun _ _ _ h => h) (Or.inl ⟨by rfl, ?_⟩) hHeld ?_ ?_
    rotate_left
    · intro w' hS'
      obtain ⟨s0, s1, s2, s3, s4, s5, s6, s7, s8, s9, s10, s11, s12, s13, s14, s15, s16, s17⟩ := LnE.cells hS'
      go_simp
      with_reducible rfl
    rotate_left
    · simp only [Act.put, List.setIfInBounds_toArray, List.set_cons_zero, List.set_cons_succ, i64_w, i32_w]
      rfl
    refine take_ (i := 9) (N := (some 99)) (v := ?_) (a' := ?_) #[true, true, true, true, true, false, false, true, true, true, true, false, false, false, true, true, false, false, false, false, false, false, false, false, false] rfl rfl (by kernel_rfl) (fun _ _ _ h => h) (Or.inl ⟨by rfl, ?_⟩) hHeld ?_ ?_
    rotate_left
    · intro w' hS'
      obtain ⟨s0, s1, s2, s3, s4, s5, s6, s7, s8, s9, s10, s11, s12, s13, s14, s15, s16, s17⟩ := LnE.cells hS'
      go_simp
      with_reducible rfl
    rotate_left
    · simp only [Act.put, List.setIfInBounds_toArray, List.set_cons_zero, List.set_cons_succ, i64_w, i32_w]
      rfl
    refine take_ (i := 11) (N := (some 101)) (v := ?_) (a' := ?_) #[true, true, true, true, true, false, false, true, true, true, true, true, false, false, true, true, false, false, false, false, false, false, false, false, false] rfl rfl (by kernel_rfl) (fun _ _ _ h => h) (Or.inl ⟨by rfl, ?_⟩) hHeld ?_ ?_
    rotate_left
    · intro w' hS'
      obtain ⟨s0, s1, s2, s3, s4, s5, s6, s7, s8, s9, s10, s11, s12, s13, s14, s15, s16, s17⟩ := LnE.cells hS'
      go_simp
      with_reducible rfl
    rotate_left
    · simp only [Act.put, List.setIfInBounds_toArray, List.set_cons_zero, List.set_cons_succ, i64_w, i32_w]
      rfl
    refine take_ (i := 16) (N := (some 106)) (v := ?_) (a' := ?_) #[true, true, true, true, true, false, false, true, true, true, true, true, false, false, true, true, true, false, false, false, false, false, false, false, false] rfl rfl (by kernel_rfl) (fun _ _ _ h => h) (Or.inl ⟨by rfl, ?_⟩) hHeld ?_ ?_
    rotate_left
    · intro w' hS'
      obtain ⟨s0, s1, s2, s3, s4, s5, s6, s7, s8, s9, s10, s11, s12, s13, s14, s15, s16, s17⟩ := LnE.cells hS'
      go_simp
      with_reducible rfl
    rotate_left
    · simp only [Act.put, List.setIfInBounds_toArray, List.set_cons_zero, List.set_cons_succ, i64_w, i32_w]
      rfl
    refine one_ (i := 5) (N := (some 95)) #[true, true, true, true, true, true, false, true, true, true, true, true, false, false, true, true, true, false, false, false, false, false, false, false, false] rfl rfl (by kernel_rfl) (by decide) (fun K hK => ?_)
    refine goes_ Try.func21 (by kernel_rfl) rfl #[.int .i64 (rd_T40 es i).f3] (by rfl) rfl rfl (by (try simp only [List.map_toArray, List.map_cons, List.map_nil]); first | done | rfl) ?_
    with_reducible refine (HTm.out _).mono ?_
    rintro e w' ⟨rfl, hb'⟩
    refine ⟨_, rfl, ?_⟩
    have hS2 := LnE.below hHeld hb'
    clear hb' hHeld
    refine hK.out _ _ hS2 (fun hHeld => ?_)
    clear hK K hS2
    refine norm_ (a' := ?_) ?_ ?_
    rotate_left
    · show Act.put _ (some 95) _ = _
      simp only [Act.put, List.setIfInBounds_toArray, List.set_cons_zero, List.set_cons_succ, i64_w, i32_w]
      rfl
    refine pure_ (i := 6) (N := (some 96)) (v := ?_) (a' := ?_) #[true, true, true, true, true, true, true, true, true, true, true, true, false, false, true, true, true, false, false, false, false, false, false, false, false] rfl rfl (by kernel_rfl) (fun _ _ _ h => h) (Or.inl ⟨by rfl, ?_⟩) ?_ ?_
    rotate_left
    · intro w'
      go_simp
      with_reducible rfl
    rotate_left
    · simp only [Act.put, List.setIfInBounds_toArray, List.set_cons_zero, List.set_cons_succ, i64_w, i32_w]
      rfl
    refine one_ (i := 12) (N := (some 102)) #[true, true, true, true, true, true, true, true, true, true, true, true, true, false, true, true, true, false, false, false, false, false, false, false, false] rfl rfl (by kernel_rfl) (by decide) (fun K hK => ?_)
    refine call_ 23 #[.int .i32 o2, .int .i64 dly] (by rfl) rfl (by unfold execOp; simp [resolve, Deferred.ofValue, invoke, Act.eval, eg1]) ?_
    with_reducible refine (HW2.out _).mono ?_
    rintro e w' ⟨rfl, hb'⟩
    refine ⟨_, rfl, ?_⟩
    have hS2 := LnE.below hHeld hb'
    clear hb' hHeld
    refine hK.out _ _ hS2 (fun hHeld => ?_)
    clear hK K hS2
    refine norm_ (a' := ?_) ?_ ?_
    rotate_left
    · show Act.put _ (some 102) _ = _
      simp only [Act.put, List.setIfInBounds_toArray, List.set_cons_zero, List.set_cons_succ, i64_w, i32_w]
      rfl
    refine pure_ (i := 13) (N := (some 103)) (v := ?_) (a' := ?_) #[true, true, true, true, true, true, true, true, true, true, true, true, true, true, true, true, true, false, false, false, false, false, false, false, false] rfl rfl (by kernel_rfl) (fun _ _ _ h => h) (Or.inl ⟨by rfl, ?_⟩) ?_ ?_
    rotate_left
    · intro w'
      go_simp
      with_reducible rfl
    rotate_left
    · simp only [Act.put, List.setIfInBounds_toArray, List.set_cons_zero, List.set_cons_succ, i64_w, i32_w]
      rfl
    refine one_ (i := 17) (N := (some 107)) #[true, true, true, true, true, true, true, true, true, true, true, true, true, true, true, true, true, true, false, false, false, false, false, false, false] rfl rfl (by kernel_rfl) (by decide) (fun K hK => ?_)
    refine call_ 24 #[.int .i32 o3, .pointer (some ⟨E + 1, 0, none⟩), .pointer (some ⟨w.heap.size, 0, none⟩)] (by rfl) rfl (by unfold execOp; simp [resolve, Deferred.ofValue, invoke, Act.eval, eg2]) ?_
    with_reducible refine (HK2.out _ E hHeld).mono ?_
    rintro e w' ⟨rfl, hb'⟩
    refine ⟨_, rfl, ?_⟩
    have hS2 := LnE.below hHeld hb'
    clear hb' hHeld
    refine hK.out _ _ hS2 (fun hHeld => ?_)
    clear hK K hS2
    refine norm_ (a' := ?_) ?_ ?_
    rotate_left
    · show Act.put _ (some 107) _ = _
      simp only [Act.put, List.setIfInBounds_toArray, List.set_cons_zero, List.set_cons_succ, i64_w, i32_w]
      rfl
    refine pure_ (i := 18) (N := (some 108)) (v := ?_) (a' := ?_) #[true, true, true, true, true, true, true, true, true, true, true, true, true, true, true, true, true, true, true, false, false, false, false, false, false] rfl rfl (by kernel_rfl) (fun _ _ _ h => h) (Or.inl ⟨by rfl, ?_⟩) ?_ ?_
    rotate_left
    · intro w'
      go_simp
      with_reducible rfl
    rotate_left
    · simp only [Act.put, List.setIfInBounds_toArray, List.set_cons_zero, List.set_cons_succ, i64_w, i32_w]
      rfl
    refine one_ (i := 19) (N := (some 109)) #[true, true, true, true, true, true, true, true, true, true, true, true, true, true, true, true, true, true, true, true, false, false, false, false, false] rfl rfl (by kernel_rfl) (by decide) (fun K hK => ?_)
    refine goes_ Try.func13 (by kernel_rfl) rfl #[.agg #[.int .i64 hosts, .int .i64 cyc, .int .i64 dly, .int .i64 win, .int .i64 prec, .slice A5 ds.length c5, .slice (some ad) es.length c6, .slice A7 ls.length c7, .int .i64 q], .int .i64 i, .int .i64 (wrap64 (wrap64 (wrap64 (wrap64 (wrap64 (3 * cyc) + F) + T) + v3) + v4))] (by rfl) rfl rfl (by (try simp only [List.map_toArray, List.map_cons, List.map_nil]); first | done | rfl) ?_
    with_reducible refine (HL.out _ hHeld.bel).mono ?_
    rintro e w' ⟨rfl, hb'⟩
    refine ⟨_, rfl, ?_⟩
    have hS2 := LnE.below hHeld hb'
    clear hb' hHeld
    refine hK.out _ _ hS2 (fun hHeld => ?_)
    clear hK K hS2
    refine norm_ (a' := ?_) ?_ ?_
    rotate_left
    · show Act.put _ (some 109) _ = _
      simp only [Act.put, List.setIfInBounds_toArray, List.set_cons_zero, List.set_cons_succ, i64_w, i32_w]
      rfl
    refine pure_ (i := 20) (N := (some 89)) (v := ?_) (a' := ?_) #[true, true, true, true, true, true, true, true, true, true, true, true, true, true, true, true, true, true, true, true, true, false, false, false, false] rfl rfl (by kernel_rfl) (fun _ _ _ h => h) (Or.inl ⟨by rfl, ?_⟩) ?_ ?_
    rotate_left
    · intro w'
      go_simp
      with_reducible rfl
    rotate_left
    · simp only [Act.put, List.setIfInBounds_toArray, List.set_cons_zero, List.set_cons_succ, i64_w, i32_w]
      rfl
    refine pure_ (i := 21) (N := (some 110)) (v := ?_) (a' := ?_) #[true, true, true, true, true, true, true, true, true, true, true, true, true, true, true, true, true, true, true, true, true, true, false, false, false] rfl rfl (by kernel_rfl) (fun _ _ _ h => h) (Or.inl ⟨by rfl, ?_⟩) ?_ ?_
    rotate_left
    · intro w'
      go_simp
      with_reducible rfl
    rotate_left
    · simp only [Act.put, List.setIfInBounds_toArray, List.set_cons_zero, List.set_cons_succ, i64_w, i32_w]
      rfl
    refine pure_ (i := 22) (N := (some 111)) (v := ?_) (a' := ?_) #[true, true, true, true, true, true, true, true, true, true, true, true, true, true, true, true, true, true, true, true, true, true, true, false, false] rfl rfl (by kernel_rfl) (fun _ _ _ h => h) (Or.inl ⟨by rfl, ?_⟩) ?_ ?_
    rotate_left
    · intro w'
      go_simp
      with_reducible rfl
    rotate_left
    · simp only [Act.put, List.setIfInBounds_toArray, List.set_cons_zero, List.set_cons_succ, i64_w, i32_w]
      rfl
    refine pure_ (i := 23) (N := (some 16)) (v := ?_) (a' := ?_) #[true, true, true, true, true, true, true, true, true, true, true, true, true, true, true, true, true, true, true, true, true, true, true, true, false] rfl rfl (by kernel_rfl) (fun _ _ _ h => h) (Or.inl ⟨by rfl, ?_⟩) ?_ ?_
    rotate_left
    · intro w'
      go_simp
      with_reducible rfl
    rotate_left
    · simp only [Act.put, List.setIfInBounds_toArray, List.set_cons_zero, List.set_cons_succ, i64_w, i32_w]
      rfl
    refine pure_ (i := 24) (N := (some 17)) (v := ?_) (a' := ?_) #[true, true, true, true, true, true, true, true, true, true, true, true, true, true, true, true, true, true, true, true, true, true, true, true, true] rfl rfl (by kernel_rfl) (fun _ _ _ h => h) (Or.inl ⟨by rfl, ?_⟩) ?_ ?_
    rotate_left
    · intro w'
      go_simp
      with_reducible rfl
    rotate_left
    · simp only [Act.put, List.setIfInBounds_toArray, List.set_cons_zero, List.set_cons_succ, i64_w, i32_w]
      rfl
    refine done_ (by kernel_rfl) ?_
    have S8 := Lib.hid hHeld.bel
    clear hHeld
    go_wp2
    go_ret
    exact ⟨by first | rfl | simp, S8.out⟩
  · have e0 : (checkV hosts cyc dly win prec ds es ls q == 0) = false := by simp [c0]
    have e1 : (checkV hosts cyc dly win prec ds es ls q != 0) = true := by simp [c0]
    have H2 := Lib.hid (fun W (h : LnB w w.heap.size #[.int .i64 hosts, .int .i64 cyc, .int .i64 dly, .int .i64 win, .int .i64 prec, .slice A5 ds.length c5, .slice A6 es.length c6, .slice A7 ls.length c7, .int .i64 q] #[.int .i32 o0, .int .i32 o1, .int .i32 o2, .int .i32 o3] W) => tocsinref08_Check.calls kc hosts cyc dly win prec A5 c5 ds A6 c6 es A7 c7 ls q _ W (Kd.C_below hr5 h.1) hc5 (Kd.C_below hr6 h.1) hc6 (Kd.C_below hr7 h.1) hc7 hkc)
    clear hkc hr5 hr6 hr7
    generalize checkV hosts cyc dly win prec ds es ls q = cv at H2 e0 e1 c0
    go_enter Try.func6, Try.ntmps6
    go_wp2_with fail
    refine (H1.out _).mono ?_
    rintro e w' ⟨rfl, hB⟩
    have S1 := Lib.hid (S0.out.below hB)
    clear hB S0
    obtain ⟨zS1_0, zS1_1, zS1_2, zS1_3, zS1_4, zS1_5, zS1_6, zS1_7, zS1_8, yS1_0, yS1_1, yS1_2, yS1_3⟩ := S1.out.cells
    go_wp2_with fail
    refine (H2.out _ S1.out).mono ?_
    rintro e w' ⟨rfl, hB⟩
    have S2 := Lib.hid (S1.out.below hB)
    clear hB S1 zS1_0 zS1_1 zS1_2 zS1_3 zS1_4 zS1_5 zS1_6 zS1_7 zS1_8 yS1_0 yS1_1 yS1_2 yS1_3
    obtain ⟨zS2_0, zS2_1, zS2_2, zS2_3, zS2_4, zS2_5, zS2_6, zS2_7, zS2_8, yS2_0, yS2_1, yS2_2, yS2_3⟩ := S2.out.cells
    go_wp2
    go_ret
    exact ⟨by first | rfl | simp, S2.out.1⟩
end
end Go.Proofs.Ytbmldeikjfecfaa.Hd
