/- A part of the proof of the statement PlanLands: words, contracts of functions that it reaches, and what they compute. No condition. -/
import Derived.Test.YtbmldeikjfecfaaE20
set_option linter.unusedVariables false
set_option linter.unusedSimpArgs false
namespace Go.Proofs.Ytbmldeikjfecfaa.Hd
open Go.RowKit Go.Proofs.Ytbmldeikjfecfaa.T Go.Proofs.YtbmldeikjfecfaaW.PrintWords Go.Proofs.YtbmldeikjfecfaaW.PrintLast Go.Proofs.YtbmldeikjfecfaaW.PrintMore
section
variable {hosts cyc dly win prec : Int} {A5 : Option Addr} {c5 : Nat} {ds : List (List Int)} {A6 : Option Addr} {c6 : Nat} {es : List S40} {A7 : Option Addr} {c7 : Nat} {ls : List S63} {q : Int}
theorem phase_calls (y : S40) (w : World) : Calls Try.prog 67 #[.agg #[.int .i64 y.f0, .int .u32 y.f1, .int .i64 y.f2, .int .i64 y.f3]] w fun e w' => e = .returned (.int .i64 y.f2) ∧ Below w.heap.size w w' := by
  obtain ⟨yf, yt, yp, ys⟩ := y
  go_enter Try.func67, Try.ntmps67
  go_wp2
  go_ret
  exact ⟨rfl, below_alloc (Below.refl _ _) _⟩
set_option maxHeartbeats 800000 in
theorem fwd_calls (y : S40) (C : Nat) (w : World) (hb : w.heap[C]? = some (.cells #[.int .i64 hosts, .int .i64 cyc, .int .i64 dly, .int .i64 win, .int .i64 prec, .slice A5 ds.length c5, .slice A6 es.length c6, .slice A7 ls.length c7, .int .i64 q] 26 (0, 0))) (hr5 : Kd.C (Kd.slice 2 (Kd.int .i64)) w A5 ds.length ds) (hc5 : ds.length ≤ c5) (hr6 : Kd.C k40 w A6 es.length es) (hc6 : es.length ≤ c6) (hr7 : Kd.C k63 w A7 ls.length ls) (hc7 : ls.length ≤ c7) (hy : okE y) (hs : spansV cyc dly win prec = true) (hr : routeV 6 y.f0 y.f1 y.f3 = true) (hp : -1125899906842624 ≤ y.f2 ∧ y.f2 ≤ 1125899906842624) :
    Calls Try.prog 68 #[.agg #[.int .i64 y.f0, .int .u32 y.f1, .int .i64 y.f2, .int .i64 y.f3], .pointer (some ⟨C, 0, none⟩)] w fun e w' => e = .returned (.int .i64 (fwdV dly prec y)) ∧ Below w.heap.size w w' := by
  have z0 : w.cell? ⟨C, 0, none⟩ = some (.int .i64 hosts) := (blk_cell hb 0).trans rfl
  have z1 : w.cell? ⟨C, 1, none⟩ = some (.int .i64 cyc) := (blk_cell hb 1).trans rfl
  have z2 : w.cell? ⟨C, 2, none⟩ = some (.int .i64 dly) := (blk_cell hb 2).trans rfl
  have z3 : w.cell? ⟨C, 3, none⟩ = some (.int .i64 win) := (blk_cell hb 3).trans rfl
  have z4 : w.cell? ⟨C, 4, none⟩ = some (.int .i64 prec) := (blk_cell hb 4).trans rfl
  have z5 : w.cell? ⟨C, 5, none⟩ = some (.slice A5 ds.length c5) := (blk_cell hb 5).trans rfl
  have z6 : w.cell? ⟨C, 6, none⟩ = some (.slice A6 es.length c6) := (blk_cell hb 6).trans rfl
  have z7 : w.cell? ⟨C, 7, none⟩ = some (.slice A7 ls.length c7) := (blk_cell hb 7).trans rfl
  have z8 : w.cell? ⟨C, 8, none⟩ = some (.int .i64 q) := (blk_cell hb 8).trans rfl
  have hlt := blk_lt hb
  have HF := Lib.hid (fun W (h : Below w.heap.size w W) => conf_Forward.calls hosts cyc dly win prec A5 c5 ds A6 c6 es A7 c7 ls q y.f0 y.f1 y.f2 y.f3 _ W (Kd.C_below hr5 h) hc5 (Kd.C_below hr6 h) hc6 (Kd.C_below hr7 h) hc7 (fwd_f y hs hr hy.2.1 hp))
  generalize fwdV dly prec y = fw at HF ⊢
  obtain ⟨yf, yt, yp, ys⟩ := y
  simp only at HF ⊢
  clear hb hr5 hr6 hr7 hy hs hr hp
  go_enter Try.func68, Try.ntmps68
  go_wp2_with fail
  refine (HF.out _ (below_alloc (Below.refl _ _) _)).mono ?_
  rintro e w1 ⟨rfl, hB⟩
  have HB := Lib.hid (below_step (below_alloc (Below.refl _ _) _) hB)
  clear hB
  go_wp2
  go_ret
  exact ⟨rfl, HB.out⟩
abbrev boxF (g : Nat) (lb : Array Value) (t : TypeId) : Obj := .cells #[.func (.func g) #[] lb] t (0, 0)
set_option maxHeartbeats 1600000 in
theorem e5_calls (a b : S40) (F g : Nat) (lb : Array Value) (eg : ∀ args w, (callFunc g args).run Try.prog w = .ok (.enter g args) w) (w : World) (hf : w.heap[F]? = some (boxF g lb 86)) (x y : Int) (hx : -1125899906842624 ≤ x ∧ x ≤ 1125899906842624) (hy : -1125899906842624 ≤ y ∧ y ≤ 1125899906842624)
    (ha : ∀ W, Below w.heap.size w W → Calls Try.prog g (#[.agg #[.int .i64 a.f0, .int .u32 a.f1, .int .i64 a.f2, .int .i64 a.f3]] ++ lb) W fun e w' => e = .returned (.int .i64 x) ∧ Below W.heap.size W w')
    (hb : ∀ W, Below w.heap.size w W → Calls Try.prog g (#[.agg #[.int .i64 b.f0, .int .u32 b.f1, .int .i64 b.f2, .int .i64 b.f3]] ++ lb) W fun e w' => e = .returned (.int .i64 y) ∧ Below W.heap.size W w') :
    Calls Try.prog 74 #[.agg #[.int .i64 a.f0, .int .u32 a.f1, .int .i64 a.f2, .int .i64 a.f3], .agg #[.int .i64 b.f0, .int .u32 b.f1, .int .i64 b.f2, .int .i64 b.f3], .pointer (some ⟨F, 0, none⟩)] w fun e w' => e = .returned (.bool (decide (a.f0 = b.f0) && meetV x (timeV a.f3) y (timeV b.f3))) ∧ Below w.heap.size w w' := by
  have f0 : w.cell? ⟨F, 0, none⟩ = some (.func (.func g) #[] lb) := (blk_cell hf 0).trans rfl
  have hlt := blk_lt hf
  have HM := Lib.hid (fun W (h : Below w.heap.size w W) => meet_calls a b g lb eg x y W hx hy (fun W' h' => ha W' (below_step h h')) (fun W' h' => hb W' (below_step h h')))
  generalize meetV x (timeV a.f3) y (timeV b.f3) = r at HM ⊢
  obtain ⟨af, at_, ap, as_⟩ := a
  obtain ⟨bf, bt, bp, bs⟩ := b
  simp only at HM ⊢
  clear hf ha hb eg hx hy
  by_cases c : af = bf
  · have c1 : (af == bf) = true := by simp [c]
    rw [decide_eq_true c]
    clear c
    go_enter Try.func74, Try.ntmps74
    go_wp2_with fail
    refine (HM.out _ (below_alloc (below_alloc (Below.refl _ _) _) _)).mono ?_
    rintro e w1 ⟨rfl, hB⟩
    have HB := Lib.hid (below_step (below_alloc (below_alloc (Below.refl _ _) _) _) hB)
    clear hB
    go_wp2
    go_ret
    exact ⟨by first | rfl | simp, HB.out⟩
  · have c1 : (af == bf) = false := by simp [c]
    rw [decide_eq_false c]
    clear c HM
    go_enter Try.func74, Try.ntmps74
    go_wp2
    go_ret
    exact ⟨by first | rfl | simp, below_alloc (below_alloc (Below.refl _ _) _) _⟩
set_option maxHeartbeats 1600000 in
theorem e6_calls (a b : S40) (F g : Nat) (lb : Array Value) (eg : ∀ args w, (callFunc g args).run Try.prog w = .ok (.enter g args) w) (w : World) (hf : w.heap[F]? = some (boxF g lb 86)) (x y : Int) (hx : -1125899906842624 ≤ x ∧ x ≤ 1125899906842624) (hy : -1125899906842624 ≤ y ∧ y ≤ 1125899906842624)
    (ha : ∀ W, Below w.heap.size w W → Calls Try.prog g (#[.agg #[.int .i64 a.f0, .int .u32 a.f1, .int .i64 a.f2, .int .i64 a.f3]] ++ lb) W fun e w' => e = .returned (.int .i64 x) ∧ Below W.heap.size W w')
    (hb : ∀ W, Below w.heap.size w W → Calls Try.prog g (#[.agg #[.int .i64 b.f0, .int .u32 b.f1, .int .i64 b.f2, .int .i64 b.f3]] ++ lb) W fun e w' => e = .returned (.int .i64 y) ∧ Below W.heap.size W w') :
    Calls Try.prog 76 #[.agg #[.int .i64 a.f0, .int .u32 a.f1, .int .i64 a.f2, .int .i64 a.f3], .agg #[.int .i64 b.f0, .int .u32 b.f1, .int .i64 b.f2, .int .i64 b.f3], .pointer (some ⟨F, 0, none⟩)] w fun e w' => e = .returned (.bool ((Go.bits .and .u32 a.f1 b.f1 != 0) && meetV x (timeV a.f3) y (timeV b.f3))) ∧ Below w.heap.size w w' := by
  have f0 : w.cell? ⟨F, 0, none⟩ = some (.func (.func g) #[] lb) := (blk_cell hf 0).trans rfl
  have hlt := blk_lt hf
  have HM := Lib.hid (fun W (h : Below w.heap.size w W) => meet_calls a b g lb eg x y W hx hy (fun W' h' => ha W' (below_step h h')) (fun W' h' => hb W' (below_step h h')))
  generalize meetV x (timeV a.f3) y (timeV b.f3) = r at HM ⊢
  obtain ⟨af, at_, ap, as_⟩ := a
  obtain ⟨bf, bt, bp, bs⟩ := b
  simp only at HM ⊢
  clear hf ha hb eg hx hy
  by_cases c : Go.bits .and .u32 at_ bt = 0
  · have c1 : (Go.bits .and .u32 at_ bt != 0) = false := by simp [c]
    rw [c1]
    clear c HM
    go_enter Try.func76, Try.ntmps76
    go_wp2
    go_ret
    exact ⟨by first | rfl | simp, below_alloc (below_alloc (Below.refl _ _) _) _⟩
  · have c1 : (Go.bits .and .u32 at_ bt != 0) = true := by simp [c]
    rw [c1]
    clear c
    go_enter Try.func76, Try.ntmps76
    go_wp2_with fail
    refine (HM.out _ (below_alloc (below_alloc (Below.refl _ _) _) _)).mono ?_
    rintro e w1 ⟨rfl, hB⟩
    have HB := Lib.hid (below_step (below_alloc (below_alloc (Below.refl _ _) _) _) hB)
    clear hB
    go_wp2
    go_ret
    exact ⟨by first | rfl | simp, HB.out⟩
set_option maxHeartbeats 1600000 in
theorem p1_calls (a y : S40) (F B g : Nat) (lb : Array Value) (eg : ∀ args w, (callFunc g args).run Try.prog w = .ok (.enter g args) w) (w : World) (hf : w.heap[F]? = some (boxF g lb 91)) (hB : w.heap[B]? = some (.cells #[.int .i64 a.f0, .int .u32 a.f1, .int .i64 a.f2, .int .i64 a.f3] 40 (0, 0))) (r : Bool)
    (hr : ∀ W, Below w.heap.size w W → Calls Try.prog g (#[.agg #[.int .i64 a.f0, .int .u32 a.f1, .int .i64 a.f2, .int .i64 a.f3], .agg #[.int .i64 y.f0, .int .u32 y.f1, .int .i64 y.f2, .int .i64 y.f3]] ++ lb) W fun e w' => e = .returned (.bool r) ∧ Below W.heap.size W w') :
    Calls Try.prog 91 #[.agg #[.int .i64 y.f0, .int .u32 y.f1, .int .i64 y.f2, .int .i64 y.f3], .pointer (some ⟨F, 0, none⟩), .pointer (some ⟨B, 0, none⟩)] w fun e w' => e = .returned (.bool r) ∧ Below w.heap.size w w' := by
  have f0 : w.cell? ⟨F, 0, none⟩ = some (.func (.func g) #[] lb) := (blk_cell hf 0).trans rfl
  have a0 : w.cell? ⟨B, 0, none⟩ = some (.int .i64 a.f0) := (blk_cell hB 0).trans rfl
  have a1 : w.cell? ⟨B, 1, none⟩ = some (.int .u32 a.f1) := (blk_cell hB 1).trans rfl
  have a2 : w.cell? ⟨B, 2, none⟩ = some (.int .i64 a.f2) := (blk_cell hB 2).trans rfl
  have a3 : w.cell? ⟨B, 3, none⟩ = some (.int .i64 a.f3) := (blk_cell hB 3).trans rfl
  have hlt := blk_lt hf
  have hlb := blk_lt hB
  have HM := Lib.hid hr
  obtain ⟨yf, yt, yp, ys⟩ := y
  obtain ⟨af, at_, ap, as_⟩ := a
  simp only at HM a0 a1 a2 a3 ⊢
  clear hf hr hB
  go_enter Try.func91, Try.ntmps91
  go_wp2_with fail
  refine (HM.out _ (below_alloc (Below.refl _ _) _)).mono ?_
  rintro e w1 ⟨rfl, hB⟩
  have HB := Lib.hid (below_step (below_alloc (Below.refl _ _) _) hB)
  clear hB
  go_wp2
  go_ret
  exact ⟨rfl, HB.out⟩
end
end Go.Proofs.Ytbmldeikjfecfaa.Hd
