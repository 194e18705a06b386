/- A part of the proof of the statement PlanLands: words, contracts of functions that it reaches, and what they compute. No condition. -/
import Derived.Test.YtbmldeikjfecfaaE18
import Derived.Test.YtbmldeikjfecfaaE08
import Derived.Deep.RegionHeld3
import Derived.Lib.SliceRun
set_option linter.unusedVariables false
set_option linter.unusedSimpArgs false
namespace Go.Proofs.Ytbmldeikjfecfaa.Hd
open Go.RowKit Go.Proofs.Ytbmldeikjfecfaa.T Go.Proofs.YtbmldeikjfecfaaW.PrintWords Go.Proofs.YtbmldeikjfecfaaW.PrintLast Go.Proofs.YtbmldeikjfecfaaW.PrintMore
section
variable {hosts cyc dly win prec : Int} {A5 : Option Addr} {c5 : Nat} {ds : List (List Int)} {A6 : Option Addr} {c6 : Nat} {es : List S40} {A7 : Option Addr} {c7 : Nat} {ls : List S63} {q : Int}
theorem ent {P : Program} {f : FuncId} {fn : Func} {c : Code} (hf : P.funcs[f]? = some fn) (hname : (fn.name == "runtime.NumGoroutine") = false) (hb : fn.body = some c) (args : Array Value) (w : World) : (callFunc f args).run P w = .ok (.enter f args) w := by
  have h1 : fn.name ≠ "runtime.NumGoroutine" := by simpa using hname
  simp [callFunc, hf, h1, hb, mark]
theorem dB {w w' : World} {e e' : Ending} (h : e = e' ∧ Drawn0 w w') : e = e' ∧ Below w.heap.size w w' := by
  obtain ⟨h, n, rfl⟩ := h
  exact ⟨h, pw_below_drewN (Below.refl _ _) n⟩
theorem n_calls (y : Int) (C : Nat) (w : World) (hb : w.heap[C]? = some (.cells #[.int .i64 hosts, .int .i64 cyc, .int .i64 dly, .int .i64 win, .int .i64 prec, .slice A5 ds.length c5, .slice A6 es.length c6, .slice A7 ls.length c7, .int .i64 q] 26 (0, 0))) :
    Calls Try.prog 66 #[.int .i64 y, .pointer (some ⟨C, 0, none⟩)] w fun e w' => e = .returned (.bool (!decide (0 ≤ y ∧ y ≤ dly))) ∧ Below w.heap.size w w' := by
  have H := Lib.hid (fun W => (conf_in.calls y 0 dly _ W (in_f y 0 dly)).mono fun _ _ => dB)
  have z2 : w.cell? ⟨C, 2, none⟩ = some (.int .i64 dly) := (blk_cell hb 2).trans rfl
  generalize decide (0 ≤ y ∧ y ≤ dly) = r at H ⊢
  clear hb
  go_enter Try.func66, Try.ntmps66
  go_wp2_with fail
  refine (H.out _).mono ?_
  rintro e w1 ⟨rfl, hB⟩
  have HB := Lib.hid hB
  clear hB
  go_wp2
  go_ret
  exact ⟨rfl, HB.out⟩
theorem all_any {α : Type} (l : List α) (p : α → Bool) : (l.any fun x => !p x) = !l.all p := by
  induction l with
  | nil => rfl
  | cons x l ih => simp only [List.any_cons, List.all_cons, ih, Bool.not_and]
set_option maxHeartbeats 1600000 in
theorem r_calls (y : List Int) (yA : Option Addr) (yc : Nat) (C : Nat) (w : World) (hb : w.heap[C]? = some (.cells #[.int .i64 hosts, .int .i64 cyc, .int .i64 dly, .int .i64 win, .int .i64 prec, .slice A5 ds.length c5, .slice A6 es.length c6, .slice A7 ls.length c7, .int .i64 q] 26 (0, 0))) (hyc : y.length ≤ yc) (hy : (Kd.int .i64).C w yA y.length y) (hl : y.length ≤ 9223372036854775807) :
    Calls Try.prog 64 #[.slice yA y.length yc, .pointer (some ⟨C, 0, none⟩)] w fun e w' => e = .returned (.bool (!rowV dly y)) ∧ Below w.heap.size w w' := by
  have eg : ∀ args w, (callFunc 66 args).run Try.prog w = .ok (.enter 66 args) w := ent Try.func66 (by kernel_rfl) rfl
  have hT : ∀ W, Below w.heap.size w W → TestI W y (fun n => !decide (0 ≤ n ∧ n ≤ dly)) 66 #[.pointer (some ⟨C, 0, none⟩)] := by
    intro W hW n _ W' hW'
    exact n_calls n C W' (blk_below (blk_below hb hW) hW')
  have H := Lib.hid (containsI 66 #[.pointer (some ⟨C, 0, none⟩)] eg yA yc y _ w hy hl (hT w (Below.refl _ _)))
  rw [all_any] at H
  unfold rowV
  clear hT hb hy eg hyc
  by_cases h2 : y.length = 2
  · have e1 : ((y.length : Int) != 2) = false := by rw [h2]; rfl
    rw [decide_eq_true h2]
    have h2' := Lib.hid h2
    clear h2
    generalize (y.all fun n => decide (0 ≤ n ∧ n ≤ dly)) = r at H ⊢
    go_enter Try.func64, Try.ntmps64
    go_wp2_with fail
    refine H.out.mono ?_
    rintro e w1 ⟨rfl, hB⟩
    have HB := Lib.hid hB
    clear hB
    go_wp2
    go_ret
    exact ⟨by first | rfl | simp, HB.out⟩
  · have e1 : ((y.length : Int) != 2) = true := by simp; omega
    rw [decide_eq_false h2]
    clear h2 H
    go_enter Try.func64, Try.ntmps64
    go_wp2
    go_ret
    exact ⟨by first | rfl | simp, Below.refl _ _⟩
set_option maxHeartbeats 1600000 in
theorem rows_calls (w : World) (hr5 : Kd.C (Kd.slice 2 (Kd.int .i64)) w A5 ds.length ds) (hc5 : ds.length ≤ c5) (hr6 : Kd.C k40 w A6 es.length es) (hc6 : es.length ≤ c6) (hr7 : Kd.C k63 w A7 ls.length ls) (hc7 : ls.length ≤ c7) (hl : ds.length ≤ 9223372036854775807) (hi : ∀ l ∈ ds, l.length ≤ 9223372036854775807) :
    Calls Try.prog 56 #[.agg #[.int .i64 hosts, .int .i64 cyc, .int .i64 dly, .int .i64 win, .int .i64 prec, .slice A5 ds.length c5, .slice A6 es.length c6, .slice A7 ls.length c7, .int .i64 q]] w fun e w' => e = .returned (.bool (decide ((ds.length : Int) = hosts) && ds.all (rowV dly))) ∧ Below w.heap.size w w' := by
  have eg : ∀ args w, (callFunc 64 args).run Try.prog w = .ok (.enter 64 args) w := ent Try.func64 (by kernel_rfl) rfl
  have hn := heap_alloc_new w (.cells #[.int .i64 hosts, .int .i64 cyc, .int .i64 dly, .int .i64 win, .int .i64 prec, .slice A5 ds.length c5, .slice A6 es.length c6, .slice A7 ls.length c7, .int .i64 q] 26)
  have hT : TestR (w.alloc (.cells #[.int .i64 hosts, .int .i64 cyc, .int .i64 dly, .int .i64 win, .int .i64 prec, .slice A5 ds.length c5, .slice A6 es.length c6, .slice A7 ls.length c7, .int .i64 q] 26)) ds (fun l => !rowV dly l) 64 #[.pointer (some ⟨w.heap.size, 0, none⟩)] := by
    intro l hm W hW yA yc hyc hy
    exact r_calls l yA yc w.heap.size W (blk_below hn hW) hyc hy (hi l hm)
  have H := Lib.hid (containsR 64 #[.pointer (some ⟨w.heap.size, 0, none⟩)] eg A5 c5 ds _ _ (Kd.C_below hr5 ((Below.refl _ _).alloc (Nat.le_refl _) _)) hl hT)
  rw [all_any] at H
  clear hT hn hr5 hr6 hr7 eg hi
  by_cases h2 : (ds.length : Int) = hosts
  · have e1 : ((ds.length : Int) != hosts) = false := by simp [h2]
    rw [decide_eq_true h2]
    have h2' := Lib.hid h2
    clear h2
    generalize ds.all (rowV dly) = r at H ⊢
    go_enter Try.func56, Try.ntmps56
    go_wp2_with fail
    refine H.out.mono ?_
    rintro e w1 ⟨rfl, hB⟩
    have HB := Lib.hid hB
    clear hB
    go_wp2
    go_ret
    exact ⟨by first | rfl | simp, ((Below.refl _ _).alloc (Nat.le_refl _) _).trans (HB.out.mono (by simp))⟩
  · have e1 : ((ds.length : Int) != hosts) = true := by simp [h2]
    rw [decide_eq_false h2]
    clear h2 H
    go_enter Try.func56, Try.ntmps56
    go_wp2
    go_ret
    exact ⟨by first | rfl | simp, (Below.refl _ _).alloc (Nat.le_refl _) _⟩
set_option maxHeartbeats 1600000 in
theorem link_calls (y : S63) (C : Nat) (w : World) (hb : w.heap[C]? = some (.cells #[.int .i64 hosts, .int .i64 cyc, .int .i64 dly, .int .i64 win, .int .i64 prec, .slice A5 ds.length c5, .slice A6 es.length c6, .slice A7 ls.length c7, .int .i64 q] 26 (0, 0))) (hy : okL y) (h1 : 1 ≤ hosts) (h6 : hosts ≤ 6) :
    Calls Try.prog 59 #[.agg #[.int .i64 y.f0, .int .u32 y.f1, .int .i64 y.f2, .int .i64 y.f3], .pointer (some ⟨C, 0, none⟩)] w fun e w' => e = .returned (.bool (bad9 hosts y)) ∧ Below w.heap.size w w' := by
  have z0 : w.cell? ⟨C, 0, none⟩ = some (.int .i64 hosts) := (blk_cell hb 0).trans rfl
  have hlt := blk_lt hb
  have H1 := Lib.hid (fun W => (conf_route.calls hosts y.f0 y.f1 y.f3 _ W (route_f hosts y.f0 y.f1 y.f3 h1 h6 hy.2.1)).mono fun _ _ => dB)
  have H2 := Lib.hid (fun W => (conf_in.calls y.f2 1 1073741824 _ W (in_f y.f2 1 1073741824)).mono fun _ _ => dB)
  unfold bad9
  generalize decide (1 ≤ y.f2 ∧ y.f2 ≤ 1073741824) = r2 at H2 ⊢
  generalize routeV hosts y.f0 y.f1 y.f3 = r1 at H1 ⊢
  obtain ⟨yf, yt, yp, ys⟩ := y
  simp only at H1 H2 ⊢
  clear hb hy h1 h6
  cases r1
  · go_enter Try.func59, Try.ntmps59
    go_wp2_with fail
    refine (H1.out _).mono ?_
    rintro e w1 ⟨rfl, hB⟩
    have HB := Lib.hid hB
    clear hB
    go_wp2
    go_ret
    exact ⟨by first | rfl | simp, ((Below.refl _ _).alloc (Nat.le_refl _) _).trans (HB.out.mono (by simp))⟩
  · go_enter Try.func59, Try.ntmps59
    go_wp2_with fail
    refine (H1.out _).mono ?_
    rintro e w1 ⟨rfl, hB⟩
    have b0 : w1.cell? ⟨w.heap.size, 2, none⟩ = some (.int .i64 yp) := (hB.cell (p := ⟨w.heap.size, 2, none⟩) (by simp)).trans (by simp)
    have HB := Lib.hid (((Below.refl _ _).alloc (Nat.le_refl _) _).trans (hB.mono (by simp)))
    clear hB
    go_wp2_with fail
    refine (H2.out _).mono ?_
    rintro e w2 ⟨rfl, hB⟩
    have HB2 := Lib.hid (HB.out.trans (hB.mono HB.out.size))
    clear hB
    go_wp2
    go_ret
    exact ⟨by first | rfl | simp, HB2.out⟩
set_option maxHeartbeats 1600000 in
theorem e3_calls (y : S40) (C : Nat) (w : World) (hb : w.heap[C]? = some (.cells #[.int .i64 hosts, .int .i64 cyc, .int .i64 dly, .int .i64 win, .int .i64 prec, .slice A5 ds.length c5, .slice A6 es.length c6, .slice A7 ls.length c7, .int .i64 q] 26 (0, 0))) (hy : okE y) (h1 : 1 ≤ hosts) (h6 : hosts ≤ 6) :
    Calls Try.prog 70 #[.agg #[.int .i64 y.f0, .int .u32 y.f1, .int .i64 y.f2, .int .i64 y.f3], .pointer (some ⟨C, 0, none⟩)] w fun e w' => e = .returned (.bool (bad5 hosts y)) ∧ Below w.heap.size w w' := by
  have z0 : w.cell? ⟨C, 0, none⟩ = some (.int .i64 hosts) := (blk_cell hb 0).trans rfl
  have hlt := blk_lt hb
  have H1 := Lib.hid (fun W => (conf_route.calls hosts y.f0 y.f1 y.f3 _ W (route_f hosts y.f0 y.f1 y.f3 h1 h6 hy.2.1)).mono fun _ _ => dB)
  unfold bad5
  generalize routeV hosts y.f0 y.f1 y.f3 = r1 at H1 ⊢
  obtain ⟨yf, yt, yp, ys⟩ := y
  simp only at H1 ⊢
  clear hb hy h1 h6
  go_enter Try.func70, Try.ntmps70
  go_wp2_with fail
  refine (H1.out _).mono ?_
  rintro e w1 ⟨rfl, hB⟩
  have HB := Lib.hid hB
  clear hB
  go_wp2
  go_ret
  exact ⟨by first | rfl | simp, ((Below.refl _ _).alloc (Nat.le_refl _) _).trans (HB.out.mono (by simp))⟩
end
end Go.Proofs.Ytbmldeikjfecfaa.Hd
