/- The walks of package wire: what each call does, with the wire as one block of three cells. -/
import Derived.Test.YtpgnfjmcgfffgaaRows
import Derived.WalkKit
import Derived.WalkSpells
import Derived.WalkLawsBesides
import Derived.Deep.QuietTactic
import Derived.BigQuiet
import Derived.Deep.DeepCutAuto
import Derived.KernelRfl
import Derived.Lib.Hide
namespace Go.Proofs.Ytpgnfjmcgfffgaa
set_option linter.unusedVariables false
set_option linter.unusedSimpArgs false
open Go.RowKit

def IsW (w : World) (g : Nat) (d b o : Int) : Prop := w.heap[g]? = some (.cells #[.int .i64 d, .int .i64 b, .int .i64 o] 50 (0, 0))

theorem IsW.c0 {w : World} {g : Nat} {d b o : Int} (h : IsW w g d b o) : w.cell? ⟨g, 0, none⟩ = some (.int .i64 d) := by
  simp only [IsW] at h; simp [World.cell?, h]
theorem IsW.c1 {w : World} {g : Nat} {d b o : Int} (h : IsW w g d b o) : w.cell? ⟨g, 1, none⟩ = some (.int .i64 b) := by
  simp only [IsW] at h; simp [World.cell?, h]
theorem IsW.c2 {w : World} {g : Nat} {d b o : Int} (h : IsW w g d b o) : w.cell? ⟨g, 2, none⟩ = some (.int .i64 o) := by
  simp only [IsW] at h; simp [World.cell?, h]
theorem IsW.fr {w : World} {g : Nat} {d b o : Int} (h : IsW w g d b o) (i : Nat) : w.frozen? ⟨g, i, none⟩ = false := by
  simp only [IsW] at h; simp [World.frozen?, h]
theorem IsW.lt {w : World} {g : Nat} {d b o : Int} (h : IsW w g d b o) : g < w.heap.size := by
  simp only [IsW] at h
  rcases Nat.lt_or_ge g w.heap.size with hlt | hge
  · exact hlt
  · rw [Array.getElem?_eq_none hge] at h; cases h
theorem IsW.set1 {w : World} {g : Nat} {d b o : Int} (h : IsW w g d b o) (x : Int) : IsW (w.setCell ⟨g, 1, none⟩ (.int .i64 x)) g d x o := by
  simp only [IsW] at h ⊢; simp [World.setCell, Array.getElem?_modify, h]
theorem IsW.set2 {w : World} {g : Nat} {d b o : Int} (h : IsW w g d b o) (x : Int) : IsW (w.setCell ⟨g, 2, none⟩ (.int .i64 x)) g d b x := by
  simp only [IsW] at h ⊢; simp [World.setCell, Array.getElem?_modify, h]
theorem IsW.grown {w w' : World} {g : Nat} {d b o : Int} {row : Option Nat} (h : IsW w g d b o) (hg : w.grownBy w' row) (hne : some g ≠ row) : IsW w' g d b o := by
  have hl := h.lt
  simp only [IsW] at h ⊢
  exact (hg.block g hl hne).trans h
theorem grown_set {w : World} {g : Nat} (i : Nat) (u : Value) : w.grownBy (w.setCell ⟨g, i, none⟩ u) (some g) :=
  ⟨rfl, rfl, rfl, by simp [World.setCell], fun k _ hne => Below.heap_setCell w _ u k (fun e => hne (by rw [e]))⟩
theorem grown_trans {a b c : World} {g : Nat} (h : a.grownBy b (some g)) (k : b.grownBy c (some g)) : a.grownBy c (some g) :=
  ⟨k.os.trans h.os, k.tape.trans h.tape, k.output.trans h.output, Nat.le_trans h.size k.size, fun i hi hne => (k.block i (Nat.lt_of_lt_of_le hi h.size) hne).trans (h.block i hi hne)⟩


def Real (t : Int) : Prop := 0 ≤ t ∧ t ≤ 1125899906842624
instance (t : Int) : Decidable (Real t) := by unfold Real; infer_instance

theorem only_drewN {a w : World} {row : Option Nat} (h : a.grownBy w row) (n : Nat) : a.grownBy (w.drewN n) row := ⟨h.os, h.tape, h.output, h.size, h.block⟩

set_option maxHeartbeats 400000 in
theorem real_calls (t : Int) (w : World) :
    Calls Try.prog 18 #[.int .i64 t] w fun e w' => e = .returned (.bool (decide (Real t))) ∧ w = w' := by
  by_cases h0 : 0 ≤ t
  · have h1 : decide (0 ≤ t) = true := by simpa using h0
    go_enter Try.func18, Try.ntmps18
    go_wp2
    go_ret
    exact ⟨by simp [h0, Real], rfl⟩
  · have h1 : decide (0 ≤ t) = false := by simpa using h0
    go_enter Try.func18, Try.ntmps18
    go_wp2
    go_ret
    exact ⟨by rw [decide_eq_false (p := Real t) (fun h => by have := h.1; omega)]; rfl, rfl⟩
theorem real_yes (t : Int) (h : Real t) (w : World) :
    Calls Try.prog 18 #[.int .i64 t] w fun e w' => e = .returned (.bool true) ∧ w = w' := by
  simpa [h] using real_calls t w
theorem real_no (t : Int) (h : ¬ Real t) (w : World) :
    Calls Try.prog 18 #[.int .i64 t] w fun e w' => e = .returned (.bool false) ∧ w = w' := by
  simpa [h] using real_calls t w

set_option maxHeartbeats 400000 in
theorem busy_yes (g : Nat) (d b o t : Int) (w : World) (h : IsW w g d b o) (h0 : b ≤ t) (h1 : t < o) :
    Calls Try.prog 19 #[.pointer (some ⟨g, 0, none⟩), .int .i64 t] w fun e w' => e = .returned (.bool true) ∧ w = w' := by
  have c1 := h.c1
  have c2 := h.c2
  clear h
  go_enter Try.func19, Try.ntmps19
  go_wp2
  go_ret
  exact ⟨by simp [h1], rfl⟩
set_option maxHeartbeats 400000 in
theorem busy_no (g : Nat) (d b o t : Int) (w : World) (h : IsW w g d b o) (h0 : ¬ (b ≤ t ∧ t < o)) :
    Calls Try.prog 19 #[.pointer (some ⟨g, 0, none⟩), .int .i64 t] w fun e w' => e = .returned (.bool false) ∧ w = w' := by
  have c1 := h.c1
  have c2 := h.c2
  clear h
  by_cases h1 : b ≤ t
  · have h2 : ¬ t < o := fun h => h0 ⟨h1, h⟩
    go_enter Try.func19, Try.ntmps19
    go_wp2
    go_ret
    exact ⟨rfl, rfl⟩
  · have h2 : decide (b ≤ t) = false := by simpa using h1
    go_enter Try.func19, Try.ntmps19
    go_wp2
    go_ret
    exact ⟨rfl, rfl⟩

def ftime (s : Int) : Int := if s < 64 then 512 else if 1518 < s then 12144 else 8 * s
theorem ftime_bd (s : Int) : 512 ≤ ftime s ∧ ftime s ≤ 12144 := by unfold ftime; split <;> (try split) <;> omega

set_option maxHeartbeats 400000 in
theorem time_calls (s : Int) (w : World) :
    Calls Try.prog 16 #[.int .i64 s] w fun e w' => e = .returned (.int .i64 (ftime s)) ∧ w = w' := by
  unfold ftime
  by_cases h1 : s < 64
  · rw [if_pos h1]
    go_enter Try.func16, Try.ntmps16
    go_wp2
    all_goals (first | (go_ret; exact ⟨rfl, rfl⟩) | (exfalso; omega))
  · rw [if_neg h1]
    by_cases h2 : 1518 < s
    · rw [if_pos h2]
      go_enter Try.func16, Try.ntmps16
      go_wp2
      all_goals (first | (go_ret; exact ⟨rfl, rfl⟩) | (exfalso; omega))
    · rw [if_neg h2]
      go_enter Try.func16, Try.ntmps16
      go_wp2
      all_goals (first | (go_ret; exact ⟨rfl, rfl⟩) | (exfalso; omega))

theorem free_bad (p : Option Addr) (t : Int) (w : World) (h : p = none ∨ ¬ Real t) :
    Calls Try.prog 13 #[.pointer p, .int .i64 t] w fun e w' => e = .returned (.tuple #[.int .i64 0, .int .i64 1]) ∧ w = w' := by
  rcases p with _ | p
  · clear h
    go_enter Try.func13, Try.ntmps13
    go_wp2
    go_ret2
    exact ⟨rfl, rfl⟩
  · have h' : ¬ Real t := by rcases h with h | h; cases h; exact h
    have H := Lib.hid h'
    clear h h'
    go_enter Try.func13, Try.ntmps13
    go_wp2_with (go_at_call 18; refine (real_no _ H.out _).mono ?_; rintro e w' ⟨rfl, rfl⟩)
    go_ret2
    exact ⟨rfl, rfl⟩
theorem free_busy (g : Nat) (d b o t : Int) (w : World) (h : IsW w g d b o) (hr : Real t) (h0 : b ≤ t) (h1 : t < o) :
    Calls Try.prog 13 #[.pointer (some ⟨g, 0, none⟩), .int .i64 t] w fun e w' => e = .returned (.tuple #[.int .i64 o, .int .i64 0]) ∧ w = w' := by
  have c2 := h.c2
  have H := Lib.hid h
  have HR := Lib.hid hr
  clear h hr
  go_enter Try.func13, Try.ntmps13
  go_wp2_with (first
    | (go_at_call 18; refine (real_yes _ HR.out _).mono ?_; rintro e w' ⟨rfl, rfl⟩)
    | (go_at_call 19; refine (busy_yes _ _ _ _ _ _ H.out h0 h1).mono ?_; rintro e w' ⟨rfl, rfl⟩))
  go_ret2
  exact ⟨rfl, rfl⟩
theorem free_free (g : Nat) (d b o t : Int) (w : World) (h : IsW w g d b o) (hr : Real t) (h0 : ¬ (b ≤ t ∧ t < o)) :
    Calls Try.prog 13 #[.pointer (some ⟨g, 0, none⟩), .int .i64 t] w fun e w' => e = .returned (.tuple #[.int .i64 t, .int .i64 0]) ∧ w = w' := by
  have H := Lib.hid h
  have HR := Lib.hid hr
  have H0 := Lib.hid h0
  clear h hr h0
  go_enter Try.func13, Try.ntmps13
  go_wp2_with (first
    | (go_at_call 18; refine (real_yes _ HR.out _).mono ?_; rintro e w' ⟨rfl, rfl⟩)
    | (go_at_call 19; refine (busy_no _ _ _ _ _ _ H.out H0.out).mono ?_; rintro e w' ⟨rfl, rfl⟩))
  go_ret2
  exact ⟨rfl, rfl⟩

theorem cut_nil (t : Int) (w : World) :
    Calls Try.prog 15 #[.pointer none, .int .i64 t] w fun e w' => e = .returned (.bool false) ∧ w = w' := by
  go_enter Try.func15, Try.ntmps15
  go_wp2
  go_ret
  exact ⟨rfl, rfl⟩
theorem cut_no (g : Nat) (d b o t : Int) (w : World) (h : IsW w g d b o) (h0 : ¬ (b ≤ t ∧ t < o)) :
    Calls Try.prog 15 #[.pointer (some ⟨g, 0, none⟩), .int .i64 t] w fun e w' => e = .returned (.bool false) ∧ w = w' := by
  have H := Lib.hid h
  have H0 := Lib.hid h0
  clear h h0
  go_enter Try.func15, Try.ntmps15
  go_wp2_with (go_at_call 19; refine (busy_no _ _ _ _ _ _ H.out H0.out).mono ?_; rintro e w' ⟨rfl, rfl⟩)
  go_ret
  exact ⟨rfl, rfl⟩
theorem cut_yes (g : Nat) (d b o t : Int) (w : World) (h : IsW w g d b o) (h0 : b ≤ t) (h1 : t < o) :
    Calls Try.prog 15 #[.pointer (some ⟨g, 0, none⟩), .int .i64 t] w fun e w' => e = .returned (.bool true) ∧ w.setCell ⟨g, 2, none⟩ (.int .i64 t) = w' := by
  have c2 := h.c2
  have f2 := h.fr 2
  have H := Lib.hid h
  clear h
  go_enter Try.func15, Try.ntmps15
  go_wp2_with (go_at_call 19; refine (busy_yes _ _ _ _ _ _ H.out h0 h1).mono ?_; rintro e w' ⟨rfl, rfl⟩)
  go_ret
  exact ⟨rfl, rfl⟩

def BadSend (t s : Int) : Prop := ¬ Real t ∨ s < 64 ∨ 1518 < s
instance (t s : Int) : Decidable (BadSend t s) := by unfold BadSend; infer_instance

set_option maxHeartbeats 400000 in
theorem send_bad (p : Option Addr) (t s : Int) (w : World) (h : p = none ∨ BadSend t s) :
    Calls Try.prog 11 #[.pointer p, .int .i64 t, .int .i64 s] w fun e w' => e = .returned (.tuple #[.int .i64 0, .int .i64 1]) ∧ w = w' := by
  rcases p with _ | p
  · clear h
    go_enter Try.func11, Try.ntmps11
    go_wp2
    go_ret2
    exact ⟨rfl, rfl⟩
  · have h' : BadSend t s := by rcases h with h | h; cases h; exact h
    clear h
    by_cases hr : Real t
    · have h1 : s < 64 ∨ 1518 < s := by rcases h' with h | h; exact absurd hr h; exact h
      clear h'
      have HR := Lib.hid hr
      clear hr
      rcases h1 with h1 | h1
      · have h2 : decide (s < 64) = true := by simpa using h1
        go_enter Try.func11, Try.ntmps11
        go_wp2_with (go_at_call 18; refine (real_yes _ HR.out _).mono ?_; rintro e w' ⟨rfl, rfl⟩)
        go_ret2
        exact ⟨rfl, rfl⟩
      · have h2 : decide (s < 64) = false := by simp; omega
        have h3 : decide (1518 < s) = true := by simpa using h1
        go_enter Try.func11, Try.ntmps11
        go_wp2_with (go_at_call 18; refine (real_yes _ HR.out _).mono ?_; rintro e w' ⟨rfl, rfl⟩)
        go_ret2
        exact ⟨rfl, rfl⟩
    · clear h'
      have H := Lib.hid hr
      clear hr
      go_enter Try.func11, Try.ntmps11
      go_wp2_with (go_at_call 18; refine (real_no _ H.out _).mono ?_; rintro e w' ⟨rfl, rfl⟩)
      go_ret2
      exact ⟨rfl, rfl⟩
set_option maxHeartbeats 400000 in
theorem send_busy (g : Nat) (d b o t s : Int) (w : World) (h : IsW w g d b o) (hg : ¬ BadSend t s) (h0 : b ≤ t) (h1 : t < o) :
    Calls Try.prog 11 #[.pointer (some ⟨g, 0, none⟩), .int .i64 t, .int .i64 s] w fun e w' => e = .returned (.tuple #[.int .i64 0, .int .i64 7]) ∧ w = w' := by
  have hr : Real t := Decidable.byContradiction fun h => hg (.inl h)
  have s1 : ¬ s < 64 := fun h => hg (.inr (.inl h))
  have s2 : ¬ 1518 < s := fun h => hg (.inr (.inr h))
  have s3 : decide (s < 64) = false := by simp; omega
  have s4 : decide (1518 < s) = false := by simp; omega
  have H := Lib.hid h
  have HR := Lib.hid hr
  clear h hr hg
  go_enter Try.func11, Try.ntmps11
  go_wp2_with (first
    | (go_at_call 18; refine (real_yes _ HR.out _).mono ?_; rintro e w' ⟨rfl, rfl⟩)
    | (go_at_call 19; refine (busy_yes _ _ _ _ _ _ H.out h0 h1).mono ?_; rintro e w' ⟨rfl, rfl⟩))
  go_ret2
  exact ⟨rfl, rfl⟩
set_option maxHeartbeats 400000 in
theorem send_old (g : Nat) (d b o t s : Int) (w : World) (h : IsW w g d b o) (hg : ¬ BadSend t s) (h0 : t < b) :
    Calls Try.prog 11 #[.pointer (some ⟨g, 0, none⟩), .int .i64 t, .int .i64 s] w fun e w' => e = .returned (.tuple #[.int .i64 0, .int .i64 1]) ∧ w = w' := by
  have hr : Real t := Decidable.byContradiction fun h => hg (.inl h)
  have s1 : ¬ s < 64 := fun h => hg (.inr (.inl h))
  have s2 : ¬ 1518 < s := fun h => hg (.inr (.inr h))
  have s3 : decide (s < 64) = false := by simp; omega
  have s4 : decide (1518 < s) = false := by simp; omega
  have c1 := h.c1
  have H := Lib.hid h
  have HR := Lib.hid hr
  clear h hr hg
  go_enter Try.func11, Try.ntmps11
  go_wp2_with (first
    | (go_at_call 18; refine (real_yes _ HR.out _).mono ?_; rintro e w' ⟨rfl, rfl⟩)
    | (go_at_call 19; refine (busy_no _ _ _ _ _ _ H.out (by omega)).mono ?_; rintro e w' ⟨rfl, rfl⟩))
  go_ret2
  exact ⟨rfl, rfl⟩
set_option maxHeartbeats 800000 in
theorem send_goes (g : Nat) (d b o t s : Int) (w : World) (h : IsW w g d b o) (hg : ¬ BadSend t s) (h0 : b ≤ t) (h1 : ¬ t < o) (d0 : 0 ≤ d) (d1 : d ≤ 1048576) :
    Calls Try.prog 11 #[.pointer (some ⟨g, 0, none⟩), .int .i64 t, .int .i64 s] w fun e w' => e = .returned (.tuple #[.int .i64 (t + ftime s + d), .int .i64 0]) ∧
      IsW w' g d t (t + ftime s) ∧ w.grownBy w' (some g) := by
  have hr : Real t := Decidable.byContradiction fun h => hg (.inl h)
  have s1 : ¬ s < 64 := fun h => hg (.inr (.inl h))
  have s2 : ¬ 1518 < s := fun h => hg (.inr (.inr h))
  have s3 : decide (s < 64) = false := by simp; omega
  have s4 : decide (1518 < s) = false := by simp; omega
  have fin : IsW ((w.setCell ⟨g, 1, none⟩ (.int .i64 t)).setCell ⟨g, 2, none⟩ (.int .i64 (t + ftime s))) g d t (t + ftime s) ∧ w.grownBy ((w.setCell ⟨g, 1, none⟩ (.int .i64 t)).setCell ⟨g, 2, none⟩ (.int .i64 (t + ftime s))) (some g) :=
    ⟨(h.set1 t).set2 _, grown_trans (grown_set 1 _) (grown_set 2 _)⟩
  have FIN := Lib.hid fin
  have t0 := hr.1
  have t1 := hr.2
  obtain ⟨F0, F1⟩ := ftime_bd s
  have c0 := h.c0
  have c1 := h.c1
  have c2 := h.c2
  have f1 := h.fr 1
  have f2 := h.fr 2
  have H := Lib.hid h
  have HR := Lib.hid hr
  have HT := Lib.hid (fun w => time_calls s w)
  clear h hr hg fin
  generalize ftime s = F at *
  go_enter Try.func11, Try.ntmps11
  go_wp2_with (first
    | (go_at_call 18; refine (real_yes _ HR.out _).mono ?_; rintro e w' ⟨rfl, rfl⟩)
    | (go_at_call 19; refine (busy_no _ _ _ _ _ _ H.out (by omega)).mono ?_; rintro e w' ⟨rfl, rfl⟩)
    | (go_at_call 16; refine (HT.out _).mono ?_; rintro e w' ⟨rfl, rfl⟩))
  have g0 := FIN.out.1.c0
  have g2 := FIN.out.1.c2
  go_quiet (fail)
  go_wp2
  go_ret2
  exact ⟨rfl, FIN.out.1, only_drewN FIN.out.2 nq⟩

theorem new_bad (d : Int) (h : d < 0 ∨ 1048576 < d) (w : World) :
    Calls Try.prog 9 #[.int .i64 d] w fun e w' => e = .returned (.tuple #[.pointer none, .int .i64 1]) ∧ w = w' := by
  rcases h with h | h
  · have h1 : decide (d < 0) = true := by simpa using h
    go_enter Try.func9, Try.ntmps9
    go_wp2
    go_ret2
    exact ⟨rfl, rfl⟩
  · have h1 : decide (d < 0) = false := by simp; omega
    have h2 : decide (1048576 < d) = true := by simpa using h
    go_enter Try.func9, Try.ntmps9
    go_wp2
    go_ret2
    exact ⟨rfl, rfl⟩
theorem new_good (d : Int) (h0 : 0 ≤ d) (h1 : d ≤ 1048576) (w : World) :
    Calls Try.prog 9 #[.int .i64 d] w fun e w' => ∃ g, e = .returned (.tuple #[.pointer (some ⟨g, 0, none⟩), .int .i64 0]) ∧ IsW w' g d 0 0 ∧ g = w.heap.size ∧ Below w.heap.size w w' := by
  have h2 : decide (d < 0) = false := by simp; omega
  have h3 : decide (1048576 < d) = false := by simp; omega
  go_enter Try.func9, Try.ntmps9
  go_wp2
  refine bodyPost_ret (results_tmp2 rfl _ _ _) rfl ?_
  exact ⟨_, rfl, heap_alloc_new w _, rfl, (Below.refl _ _).alloc (Nat.le_refl _) _⟩

def ctl (a b c d f : Int) : Value := .agg #[.int .i64 a, .int .i64 b, .int .i64 c, .int .u32 d, .int .i64 f]
theorem clear_neg (a b c d f x : Int) (h : x < 0) (w : World) :
    Calls Try.prog 17 #[ctl a b c d f, .int .i64 x] w fun e w' =>
      e = .returned (.tuple #[ctl 0 0 0 0 0, .int .i64 1]) ∧ Below w.heap.size w w' := by
  have h1 : decide (x < 0) = true := by simpa using h
  unfold ctl
  go_enter Try.func17, Try.ntmps17
  go_wp2
  exact bodyPost_ret (v := .tuple #[ctl 0 0 0 0 0, .int .i64 1]) (by simp [results, Try.results17, go_sem, ctl]) rfl
    ⟨rfl, ((Below.refl _ _).alloc (Nat.le_refl _) _).alloc (by simp) _⟩
theorem clear_range (a b c d f x : Int) (h : ¬ x < 0) (hf : f < 0 ∨ 1048576 < f ∨ 1048576 < f + x) (hb : -9223372036854775808 ≤ f) (w : World) :
    Calls Try.prog 17 #[ctl a b c d f, .int .i64 x] w fun e w' =>
      e = .returned (.tuple #[ctl 0 0 0 0 0, .int .i64 4]) ∧ Below w.heap.size w w' := by
  have h1 : decide (x < 0) = false := by simpa using h
  unfold ctl
  by_cases h2 : f < 0
  · have h3 : decide (f < 0) = true := by simpa using h2
    clear hf
    go_enter Try.func17, Try.ntmps17
    go_wp2
    exact bodyPost_ret (v := .tuple #[ctl 0 0 0 0 0, .int .i64 4]) (by simp [results, Try.results17, go_sem, ctl]) rfl
      ⟨rfl, ((Below.refl _ _).alloc (Nat.le_refl _) _).alloc (by simp) _⟩
  · have h3 : decide (f < 0) = false := by simpa using h2
    by_cases h4 : 1048576 < f
    · have h5 : decide (1048576 < f) = true := by simpa using h4
      clear hf
      go_enter Try.func17, Try.ntmps17
      go_wp2
      exact bodyPost_ret (v := .tuple #[ctl 0 0 0 0 0, .int .i64 4]) (by simp [results, Try.results17, go_sem, ctl]) rfl
        ⟨rfl, ((Below.refl _ _).alloc (Nat.le_refl _) _).alloc (by simp) _⟩
    · have h5 : decide (1048576 < f) = false := by simpa using h4
      have h6 : decide (1048576 - f < x) = true := by simp; omega
      clear hf
      go_enter Try.func17, Try.ntmps17
      go_wp2
      exact bodyPost_ret (v := .tuple #[ctl 0 0 0 0 0, .int .i64 4]) (by simp [results, Try.results17, go_sem, ctl]) rfl
        ⟨rfl, ((Below.refl _ _).alloc (Nat.le_refl _) _).alloc (by simp) _⟩
theorem clear_good (a b c d f x : Int) (h : 0 ≤ x) (h0 : 0 ≤ f) (h1 : f + x ≤ 1048576) (w : World) :
    Calls Try.prog 17 #[ctl a b c d f, .int .i64 x] w fun e w' =>
      e = .returned (.tuple #[ctl a b c d (f + x), .int .i64 0]) ∧ Below w.heap.size w w' := by
  have h2 : decide (x < 0) = false := by simpa using h
  have h3 : decide (f < 0) = false := by simpa using h0
  have h4 : decide (1048576 < f) = false := by simp; omega
  have h5 : decide (1048576 - f < x) = false := by simp; omega
  unfold ctl
  go_enter Try.func17, Try.ntmps17
  go_wp2
  exact bodyPost_ret (v := .tuple #[ctl a b c d (f + x), .int .i64 0]) (by simp [results, Try.results17, go_sem, ctl]) rfl
    ⟨rfl, ((Below.refl _ _).alloc (Nat.le_refl _) _).alloc (by simp) _⟩
end Go.Proofs.Ytpgnfjmcgfffgaa
