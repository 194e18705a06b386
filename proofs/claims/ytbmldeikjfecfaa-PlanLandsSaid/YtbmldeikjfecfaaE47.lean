/- A part of the proof of the statement PlanLands: words, contracts of functions that it reaches, and what they compute. No condition. -/
import Derived.Test.YtbmldeikjfecfaaE46
set_option linter.unusedVariables false
set_option linter.unusedSimpArgs false
namespace Go.Proofs.Ytbmldeikjfecfaa.Hd
open Go.RowKit Go.Proofs.Ytbmldeikjfecfaa.T Go.Proofs.YtbmldeikjfecfaaW.PrintWords Go.Proofs.YtbmldeikjfecfaaW.PrintLast Go.Proofs.YtbmldeikjfecfaaW.PrintMore
section
variable {hosts cyc dly win prec : Int} {A5 : Option Addr} {c5 : Nat} {ds : List (List Int)} {A6 : Option Addr} {c6 : Nat} {es : List S40} {A7 : Option Addr} {c7 : Nat} {ls : List S63} {q : Int}
def withinV (n most : Int) : Int := (n % 4294967296) % (most + 1)
theorem withinV_in {n most : Int} (h : 0 ≤ most) : 0 ≤ withinV n most ∧ withinV n most ≤ most := by
  unfold withinV
  have h1 := Int.emod_nonneg (n % 4294967296) (show most + 1 ≠ 0 by omega)
  have h2 := Int.emod_lt_of_pos (n % 4294967296) (show 0 < most + 1 by omega)
  omega
theorem within_calls (n most : Int) (hm : 0 ≤ most ∧ most ≤ 2251799813685248) (w : World) :
    Calls Try.prog 23 #[.int .i32 n, .int .i64 most] w fun e w' => e = .returned (.int .i64 (withinV n most)) ∧ Below w.heap.size w w' := by
  have e1 : wrap64 (most + 1) = most + 1 := w64 (by omega)
  go_enter Try.func23, Try.ntmps23
  go_wp2
  go_ret
  have h := withinV_in (n := n) hm.1
  refine ⟨?_, Below.refl _ _⟩
  show Ending.returned (.int .i64 (wrap64 (withinV n most))) = _
  rw [w64 (by omega)]
def SkB (w : World) (C : Nat) (cv : Array Value) (I : Nat) (fv : Value) (W : World) : Prop := Below w.heap.size w W ∧ W.heap[C]? = some (.cells cv 26 (0, 0)) ∧ W.heap[I]? = some (.cells #[fv] 45 (0, 0))
theorem SkB.below {w : World} {C : Nat} {cv : Array Value} {I : Nat} {fv : Value} {w1 w2 : World} (h : SkB w C cv I fv w1) (hb : Below w1.heap.size w1 w2) : SkB w C cv I fv w2 := ⟨below_step h.1 hb, blk_below h.2.1 hb, blk_below h.2.2 hb⟩
theorem SkB.cells {w w' : World} {C I : Nat} {fv : Value} (h : SkB w C #[.int .i64 hosts, .int .i64 cyc, .int .i64 dly, .int .i64 win, .int .i64 prec, .slice A5 ds.length c5, .slice A6 es.length c6, .slice A7 ls.length c7, .int .i64 q] I fv w') : w'.cell? ⟨C, 4, none⟩ = some (.int .i64 prec) ∧ w'.cell? ⟨I, 0, none⟩ = some fv := ⟨(blk_cell h.2.1 4).trans rfl, (blk_cell h.2.2 0).trans rfl⟩
set_option maxHeartbeats 3200000 in
theorem skew_calls (n : Int) (C I : Nat) (w : World) (hp : 0 ≤ prec ∧ prec ≤ 1125899906842624) (hC : w.heap[C]? = some (.cells #[.int .i64 hosts, .int .i64 cyc, .int .i64 dly, .int .i64 win, .int .i64 prec, .slice A5 ds.length c5, .slice A6 es.length c6, .slice A7 ls.length c7, .int .i64 q] 26 (0, 0))) (hI : w.heap[I]? = some (.cells #[.func (.func 23) #[] #[]] 45 (0, 0))) :
    Calls Try.prog 24 #[.int .i32 n, .pointer (some ⟨I, 0, none⟩), .pointer (some ⟨C, 0, none⟩)] w fun e w' => e = .returned (.int .i64 (withinV n (2 * prec) - prec)) ∧ Below w.heap.size w w' := by
  have e1 : wrap64 (2 * prec) = 2 * prec := w64 (by omega)
  have e2 : wrap64 (withinV n (2 * prec) - prec) = withinV n (2 * prec) - prec := by have := withinV_in (n := n) (most := 2 * prec) (by omega); exact w64 (by omega)
  have HW := Lib.hid (fun W => within_calls n (2 * prec) (by omega) W)
  generalize withinV n (2 * prec) = v at e2 HW ⊢
  have eg : ∀ args w, (callFunc 23 args).run Try.prog w = .ok (.enter 23 args) w := ent Try.func23 (by kernel_rfl) rfl
  have hT := Lib.hid (show SkB w C #[.int .i64 hosts, .int .i64 cyc, .int .i64 dly, .int .i64 win, .int .i64 prec, .slice A5 ds.length c5, .slice A6 es.length c6, .slice A7 ls.length c7, .int .i64 q] I (.func (.func 23) #[] #[]) w.drew from ⟨below_drew (Below.refl _ _), blk_drew hC, blk_drew hI⟩)
  clear hC hI hp
  go_enter Try.func24, Try.ntmps24
  go_wp2_with fail
  refine start_ (n := 10) (S := (SkB w C #[.int .i64 hosts, .int .i64 cyc, .int .i64 dly, .int .i64 win, .int .i64 prec, .slice A5 ds.length c5, .slice A6 es.length c6, .slice A7 ls.length c7, .int .i64 q] I (.func (.func 23) #[] #[]))) (ds := []) #[false, false, false, false, false, false, false, false, false, false] (by kernel_rfl) rfl rfl hT.out (fun hHeld => ?_)
  refine pure_ (i := 1) (N := (some 6)) (v := ?_) (a' := ?_) #[false, true, false, false, false, false, false, false, false, false] rfl rfl (by kernel_rfl) (fun _ _ _ h => h) (Or.inl ⟨by rfl, ?_⟩) ?_ ?_
  rotate_left
  · intro w'
    go_simp
    with_reducible rfl
  rotate_left
  · simp only [Act.put, List.setIfInBounds_toArray, List.set_cons_zero, List.set_cons_succ, i64_w, i32_w]
    rfl
  refine pure_ (i := 2) (N := (some 7)) (v := ?_) (a' := ?_) #[false, true, true, false, false, false, false, false, false, false] rfl rfl (by kernel_rfl) (fun _ _ _ h => h) (Or.inl ⟨by rfl, ?_⟩) ?_ ?_
  rotate_left
  · intro w'
    go_simp
    with_reducible rfl
  rotate_left
  · simp only [Act.put, List.setIfInBounds_toArray, List.set_cons_zero, List.set_cons_succ, i64_w, i32_w]
    rfl
  refine pure_ (i := 6) (N := (some 11)) (v := ?_) (a' := ?_) #[false, true, true, false, false, false, true, false, false, false] rfl rfl (by kernel_rfl) (fun _ _ _ h => h) (Or.inl ⟨by rfl, ?_⟩) ?_ ?_
  rotate_left
  · intro w'
    go_simp
    with_reducible rfl
  rotate_left
  · simp only [Act.put, List.setIfInBounds_toArray, List.set_cons_zero, List.set_cons_succ, i64_w, i32_w]
    rfl
  refine take_ (i := 0) (N := (some 5)) (v := ?_) (a' := ?_) #[true, true, true, false, false, false, true, false, false, false] rfl rfl (by kernel_rfl) (fun _ _ _ h => h) (Or.inl ⟨by rfl, ?_⟩) hHeld ?_ ?_
  rotate_left
  · intro w' hS'
    obtain ⟨s0, s1⟩ := SkB.cells hS'
    go_simp
    with_reducible rfl
  rotate_left
  · simp only [Act.put, List.setIfInBounds_toArray, List.set_cons_zero, List.set_cons_succ, i64_w, i32_w]
    rfl
  refine take_ (i := 3) (N := (some 8)) (v := ?_) (a' := ?_) #[true, true, true, true, false, false, true, false, false, false] rfl rfl (by kernel_rfl) (fun _ _ _ h => h) (Or.inl ⟨by rfl, ?_⟩) hHeld ?_ ?_
  rotate_left
  · intro w' hS'
    obtain ⟨s0, s1⟩ := SkB.cells hS'
    go_simp
    with_reducible rfl
  rotate_left
  · simp only [Act.put, List.setIfInBounds_toArray, List.set_cons_zero, List.set_cons_succ, i64_w, i32_w]
    rfl
  refine take_ (i := 7) (N := (some 12)) (v := ?_) (a' := ?_) #[true, true, true, true, false, false, true, true, false, false] rfl rfl (by kernel_rfl) (fun _ _ _ h => h) (Or.inl ⟨by rfl, ?_⟩) hHeld ?_ ?_
  rotate_left
  · intro w' hS'
    obtain ⟨s0, s1⟩ := SkB.cells hS'
    go_simp
    with_reducible rfl
  rotate_left
  · simp only [Act.put, List.setIfInBounds_toArray, List.set_cons_zero, List.set_cons_succ, i64_w, i32_w]
    rfl
  refine pure_ (i := 4) (N := (some 9)) (v := ?_) (a' := ?_) #[true, true, true, true, true, false, true, true, false, false] rfl rfl (by kernel_rfl) (fun _ _ _ h => h) (Or.inl ⟨by rfl, ?_⟩) ?_ ?_
  rotate_left
  · intro w'
    go_simp
    with_reducible rfl
  rotate_left
  · simp only [Act.put, List.setIfInBounds_toArray, List.set_cons_zero, List.set_cons_succ, i64_w, i32_w]
    rfl
  refine one_ (i := 5) (N := (some 10)) #[true, true, true, true, true, true, true, true, false, false] rfl rfl (by kernel_rfl) (by decide) (fun K hK => ?_)
  refine call_ 23 #[.int .i32 n, .int .i64 (2 * prec)] (by rfl) rfl (by unfold execOp; simp [resolve, Deferred.ofValue, invoke, Act.eval, eg, e1]) ?_
  with_reducible refine (HW.out _).mono ?_
  rintro e w' ⟨rfl, hb'⟩
  refine ⟨_, rfl, ?_⟩
  have hS2 := SkB.below hHeld hb'
  clear hb' hHeld
  refine hK.out _ _ hS2 (fun hHeld => ?_)
  clear hK K hS2
  refine norm_ (a' := ?_) ?_ ?_
  rotate_left
  · show Act.put _ (some 10) _ = _
    simp only [Act.put, List.setIfInBounds_toArray, List.set_cons_zero, List.set_cons_succ, i64_w, i32_w]
    rfl
  refine pure_ (i := 8) (N := (some 13)) (v := ?_) (a' := ?_) #[true, true, true, true, true, true, true, true, true, false] rfl rfl (by kernel_rfl) (fun _ _ _ h => h) (Or.inl ⟨by rfl, ?_⟩) ?_ ?_
  rotate_left
  · intro w'
    go_simp
    with_reducible rfl
  rotate_left
  · simp only [Act.put, List.setIfInBounds_toArray, List.set_cons_zero, List.set_cons_succ, i64_w, i32_w]
    rfl
  refine pure_ (i := 9) (N := (some 4)) (v := ?_) (a' := ?_) #[true, true, true, true, true, true, true, true, true, true] rfl rfl (by kernel_rfl) (fun _ _ _ h => h) (Or.inl ⟨by rfl, ?_⟩) ?_ ?_
  rotate_left
  · intro w'
    go_simp
    with_reducible rfl
  rotate_left
  · simp only [Act.put, List.setIfInBounds_toArray, List.set_cons_zero, List.set_cons_succ, i64_w, i32_w]
    rfl
  refine done_ (by kernel_rfl) ?_
  have HT := Lib.hid hHeld.1
  clear hHeld
  go_wp2
  go_ret
  exact ⟨by first | rfl | simp [e2], HT.out⟩
end
end Go.Proofs.Ytbmldeikjfecfaa.Hd
